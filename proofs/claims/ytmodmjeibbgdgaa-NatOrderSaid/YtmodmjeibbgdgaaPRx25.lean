-- PRINTED by print.py (a twelfth state) out of the translation. Not trusted: Lean checks it.
import Derived.Test.YtmodmjeibbgdgaaPRx0
import Derived.Test.YtmodmjeibbgdgaaPRx1
import Derived.Test.YtmodmjeibbgdgaaPRx4
import Derived.Test.YtmodmjeibbgdgaaPRx6
import Derived.Test.YtmodmjeibbgdgaaPRx7
import Derived.Test.YtmodmjeibbgdgaaPRx8
import Derived.Test.YtmodmjeibbgdgaaPRx16
import Derived.Test.YtmodmjeibbgdgaaPRx22
import Derived.Test.YtmodmjeibbgdgaaPRx23
import Derived.Test.YtmodmjeibbgdgaaPRx24
namespace Go.Proofs.Ytmodmjeibbgdgaa.PR
open Go.RowKit Go.Proofs.YtmodmjeibbgdgaaW.PrintWords Go.Proofs.YtmodmjeibbgdgaaW.PrintLast Go.Proofs.YtmodmjeibbgdgaaW.PrintMore
attribute [local go_sem] max2_int min2_int max_two min_two max_three min_three max_four min_four   -- for this text's walks alone
set_option linter.unusedVariables false
set_option linter.unusedSimpArgs false

/-! ### offcutlaw01_NatOrder: function 3 -/
mutual
def offcutlaw01_NatOrder.j0 : Nat → List Int → List Int → Bool → Option (Bool)
  | 0, _, _, _ => none
  | k + 1, x0, x1, x18 => if x18 = true then ((offcutlaw01_awake.f k).bind fun t241 => (some t241)) else ((offcutref01_Of.f k x0).bind fun t242 => ((offcutref01_Of.f k x1).bind fun t243 => ((offcutref01_Less.f t242 t243).bind fun t244 => (if t244 = true then (offcutlaw01_NatOrder.j1 k x0 x1 t242 t243 (-1)) else (offcutlaw01_NatOrder.j1 k x0 x1 t242 t243 0)))))
def offcutlaw01_NatOrder.j1 : Nat → List Int → List Int → ByteArray → ByteArray → Int → Option (Bool)
  | 0, _, _, _, _, _ => none
  | k + 1, x0, x1, x5, x6, x7 => (offcutref01_Less.f x6 x5).bind fun t245 => (if t245 = true then (offcutlaw01_NatOrder.j2 k x0 x1 x5 1) else (offcutlaw01_NatOrder.j2 k x0 x1 x5 x7))
def offcutlaw01_NatOrder.j2 : Nat → List Int → List Int → ByteArray → Int → Option (Bool)
  | 0, _, _, _, _ => none
  | k + 1, x0, x1, x5, x7 => (nat_Small.f k x0).bind fun bt246 => ((offcutref01_Less.f x5 (⟨#[49, 56, 52, 52, 54, 55, 52, 52, 48, 55, 51, 55, 48, 57, 53, 53, 49, 54, 49, 54]⟩ : ByteArray)).bind fun t248 => (if (bt246.2 != t248) = true then (offcutlaw01_NatOrder.j3 k x0 x1 x7 true) else (if bt246.2 = true then ((nat_Of.f k bt246.1).bind fun t249 => ((offcutlaw01_is.f k t249 x5).bind fun t252 => (if t252 = true then (offcutlaw01_NatOrder.j3 k x0 x1 x7 false) else (offcutlaw01_NatOrder.j3 k x0 x1 x7 true)))) else (offcutlaw01_NatOrder.j3 k x0 x1 x7 (bt246.1 != 0)))))
def offcutlaw01_NatOrder.j3 : Nat → List Int → List Int → Int → Bool → Option (Bool)
  | 0, _, _, _, _ => none
  | k + 1, x0, x1, x7, x56 => if x56 = true then (some false) else (if (x0.length : Int) = 0 then ((nat_Compare.f k x0 x1).bind fun t253 => (if t253 = x7 then ((nat_Right.f x0).bind fun t254 => (if (t254 == true) = true then ((offcutlaw01_awake.f k).bind fun t255 => (some t255)) else (some false))) else (some false))) else (if 0 ≤ (wrap64 ((x0.length : Int) - 1)) then (if (wrap64 ((x0.length : Int) - 1)) < (x0.length : Int) then ((nat_Compare.f k x0 x1).bind fun t257 => (if t257 = x7 then ((nat_Right.f x0).bind fun t258 => (if (t258 == ((rd x0 (wrap64 ((x0.length : Int) - 1))) != 0)) = true then ((offcutlaw01_awake.f k).bind fun t259 => (some t259)) else (some false))) else (some false))) else (none)) else (none)))
end
def offcutlaw01_NatOrder.f (k : Nat) (l0 : List Int) (l1 : List Int) : Option (Bool) := (offcutlaw01_few.f l0).bind fun t239 => (if t239 = true then ((offcutlaw01_few.f l1).bind fun t240 => (offcutlaw01_NatOrder.j0 k l0 l1 (!t240))) else (offcutlaw01_NatOrder.j0 k l0 l1 true))
theorem offcutlaw01_NatOrder.mono_l : ∀ k, (∀ y0 y1 y2, LeO (offcutlaw01_NatOrder.j0 k y0 y1 y2) (offcutlaw01_NatOrder.j0 (k + 1) y0 y1 y2)) ∧ (∀ y0 y1 y2 y3 y4, LeO (offcutlaw01_NatOrder.j1 k y0 y1 y2 y3 y4) (offcutlaw01_NatOrder.j1 (k + 1) y0 y1 y2 y3 y4)) ∧ (∀ y0 y1 y2 y3, LeO (offcutlaw01_NatOrder.j2 k y0 y1 y2 y3) (offcutlaw01_NatOrder.j2 (k + 1) y0 y1 y2 y3)) ∧ (∀ y0 y1 y2 y3, LeO (offcutlaw01_NatOrder.j3 k y0 y1 y2 y3) (offcutlaw01_NatOrder.j3 (k + 1) y0 y1 y2 y3))
  | 0 => ⟨fun _ _ _ r h => by simp [offcutlaw01_NatOrder.j0] at h, fun _ _ _ _ _ r h => by simp [offcutlaw01_NatOrder.j1] at h, fun _ _ _ _ r h => by simp [offcutlaw01_NatOrder.j2] at h, fun _ _ _ _ r h => by simp [offcutlaw01_NatOrder.j3] at h⟩
  | k + 1 => by
    obtain ⟨ih0, ih1, ih2, ih3⟩ := offcutlaw01_NatOrder.mono_l k
    refine ⟨?_, ?_, ?_, ?_⟩
    · intro y0 y1 y2
      unfold offcutlaw01_NatOrder.j0
      repeat' first
      | (with_reducible exact ih0 _ _ _)
      | (with_reducible exact ih1 _ _ _ _ _)
      | (with_reducible exact ih2 _ _ _ _)
      | (with_reducible exact ih3 _ _ _ _)
      | (with_reducible exact nat_Compare.mono _ _ _)
      | (with_reducible exact nat_Of.mono _ _)
      | (with_reducible exact nat_Small.mono _ _)
      | (with_reducible exact offcutlaw01_awake.mono _)
      | (with_reducible exact offcutlaw01_is.mono _ _ _)
      | (with_reducible exact offcutref01_Of.mono _ _)
      | (with_reducible exact LeO.refl _)
      | (with_reducible exact LeO.none _)
      | (with_reducible refine LeO.ite ?_ ?_)
      | (with_reducible refine LeO.bind ?_ (fun _ => ?_))
      | exact ih0 _ _ _
      | exact ih1 _ _ _ _ _
      | exact ih2 _ _ _ _
      | exact ih3 _ _ _ _
      | exact nat_Compare.mono _ _ _
      | exact nat_Of.mono _ _
      | exact nat_Small.mono _ _
      | exact offcutlaw01_awake.mono _
      | exact offcutlaw01_is.mono _ _ _
      | exact offcutref01_Of.mono _ _
      | exact LeO.none _
      | refine LeO.ite ?_ ?_
      | refine LeO.bind ?_ (fun _ => ?_)
    · intro y0 y1 y2 y3 y4
      unfold offcutlaw01_NatOrder.j1
      repeat' first
      | (with_reducible exact ih0 _ _ _)
      | (with_reducible exact ih1 _ _ _ _ _)
      | (with_reducible exact ih2 _ _ _ _)
      | (with_reducible exact ih3 _ _ _ _)
      | (with_reducible exact nat_Compare.mono _ _ _)
      | (with_reducible exact nat_Of.mono _ _)
      | (with_reducible exact nat_Small.mono _ _)
      | (with_reducible exact offcutlaw01_awake.mono _)
      | (with_reducible exact offcutlaw01_is.mono _ _ _)
      | (with_reducible exact offcutref01_Of.mono _ _)
      | (with_reducible exact LeO.refl _)
      | (with_reducible exact LeO.none _)
      | (with_reducible refine LeO.ite ?_ ?_)
      | (with_reducible refine LeO.bind ?_ (fun _ => ?_))
      | exact ih0 _ _ _
      | exact ih1 _ _ _ _ _
      | exact ih2 _ _ _ _
      | exact ih3 _ _ _ _
      | exact nat_Compare.mono _ _ _
      | exact nat_Of.mono _ _
      | exact nat_Small.mono _ _
      | exact offcutlaw01_awake.mono _
      | exact offcutlaw01_is.mono _ _ _
      | exact offcutref01_Of.mono _ _
      | exact LeO.none _
      | refine LeO.ite ?_ ?_
      | refine LeO.bind ?_ (fun _ => ?_)
    · intro y0 y1 y2 y3
      unfold offcutlaw01_NatOrder.j2
      repeat' first
      | (with_reducible exact ih0 _ _ _)
      | (with_reducible exact ih1 _ _ _ _ _)
      | (with_reducible exact ih2 _ _ _ _)
      | (with_reducible exact ih3 _ _ _ _)
      | (with_reducible exact nat_Compare.mono _ _ _)
      | (with_reducible exact nat_Of.mono _ _)
      | (with_reducible exact nat_Small.mono _ _)
      | (with_reducible exact offcutlaw01_awake.mono _)
      | (with_reducible exact offcutlaw01_is.mono _ _ _)
      | (with_reducible exact offcutref01_Of.mono _ _)
      | (with_reducible exact LeO.refl _)
      | (with_reducible exact LeO.none _)
      | (with_reducible refine LeO.ite ?_ ?_)
      | (with_reducible refine LeO.bind ?_ (fun _ => ?_))
      | exact ih0 _ _ _
      | exact ih1 _ _ _ _ _
      | exact ih2 _ _ _ _
      | exact ih3 _ _ _ _
      | exact nat_Compare.mono _ _ _
      | exact nat_Of.mono _ _
      | exact nat_Small.mono _ _
      | exact offcutlaw01_awake.mono _
      | exact offcutlaw01_is.mono _ _ _
      | exact offcutref01_Of.mono _ _
      | exact LeO.none _
      | refine LeO.ite ?_ ?_
      | refine LeO.bind ?_ (fun _ => ?_)
    · intro y0 y1 y2 y3
      unfold offcutlaw01_NatOrder.j3
      repeat' first
      | (with_reducible exact ih0 _ _ _)
      | (with_reducible exact ih1 _ _ _ _ _)
      | (with_reducible exact ih2 _ _ _ _)
      | (with_reducible exact ih3 _ _ _ _)
      | (with_reducible exact nat_Compare.mono _ _ _)
      | (with_reducible exact nat_Of.mono _ _)
      | (with_reducible exact nat_Small.mono _ _)
      | (with_reducible exact offcutlaw01_awake.mono _)
      | (with_reducible exact offcutlaw01_is.mono _ _ _)
      | (with_reducible exact offcutref01_Of.mono _ _)
      | (with_reducible exact LeO.refl _)
      | (with_reducible exact LeO.none _)
      | (with_reducible refine LeO.ite ?_ ?_)
      | (with_reducible refine LeO.bind ?_ (fun _ => ?_))
      | exact ih0 _ _ _
      | exact ih1 _ _ _ _ _
      | exact ih2 _ _ _ _
      | exact ih3 _ _ _ _
      | exact nat_Compare.mono _ _ _
      | exact nat_Of.mono _ _
      | exact nat_Small.mono _ _
      | exact offcutlaw01_awake.mono _
      | exact offcutlaw01_is.mono _ _ _
      | exact offcutref01_Of.mono _ _
      | exact LeO.none _
      | refine LeO.ite ?_ ?_
      | refine LeO.bind ?_ (fun _ => ?_)
theorem offcutlaw01_NatOrder.mono : ∀ a0 a1 k, LeO (offcutlaw01_NatOrder.f k a0 a1) (offcutlaw01_NatOrder.f (k + 1) a0 a1) := by
  intro a0 a1 k
  obtain ⟨ih0, ih1, ih2, ih3⟩ := offcutlaw01_NatOrder.mono_l k
  unfold offcutlaw01_NatOrder.f
  repeat' first
      | (with_reducible exact ih0 _ _ _)
      | (with_reducible exact ih1 _ _ _ _ _)
      | (with_reducible exact ih2 _ _ _ _)
      | (with_reducible exact ih3 _ _ _ _)
      | (with_reducible exact nat_Compare.mono _ _ _)
      | (with_reducible exact nat_Of.mono _ _)
      | (with_reducible exact nat_Small.mono _ _)
      | (with_reducible exact offcutlaw01_awake.mono _)
      | (with_reducible exact offcutlaw01_is.mono _ _ _)
      | (with_reducible exact offcutref01_Of.mono _ _)
      | (with_reducible exact LeO.refl _)
      | (with_reducible exact LeO.none _)
      | (with_reducible refine LeO.ite ?_ ?_)
      | (with_reducible refine LeO.bind ?_ (fun _ => ?_))
      | exact ih0 _ _ _
      | exact ih1 _ _ _ _ _
      | exact ih2 _ _ _ _
      | exact ih3 _ _ _ _
      | exact nat_Compare.mono _ _ _
      | exact nat_Of.mono _ _
      | exact nat_Small.mono _ _
      | exact offcutlaw01_awake.mono _
      | exact offcutlaw01_is.mono _ _ _
      | exact offcutref01_Of.mono _ _
      | exact LeO.none _
      | refine LeO.ite ?_ ?_
      | refine LeO.bind ?_ (fun _ => ?_)
set_option maxHeartbeats 8000000 in
set_option maxRecDepth 100000 in
theorem offcutlaw01_NatOrder.calls (k : Nat) (A0 : Option Addr) (c0 : Nat) (l0 : List Int) (A1 : Option Addr) (c1 : Nat) (l1 : List Int) (r : Bool) (w : World) (hr0 : Kd.C (Kd.int .u32) w A0 l0.length l0) (hc0 : l0.length ≤ c0) (hr1 : Kd.C (Kd.int .u32) w A1 l1.length l1) (hc1 : l1.length ≤ c1) (h : offcutlaw01_NatOrder.f k l0 l1 = some r) :
    Calls Try.prog 3 #[.slice A0 l0.length c0, .slice A1 l1.length c1] w fun e w' => e = .returned (.bool r) ∧ Below w.heap.size w w' := by
  have HR0 := Aside0.mk hr0
  have HC0 := Aside0.mk hc0
  clear hr0 hc0
  have HR1 := Aside0.mk hr1
  have HC1 := Aside0.mk hc1
  clear hr1 hc1
  have HB := Aside0.mk (Below.refl w.heap.size w)
  have H : ((offcutlaw01_few.f l0).bind fun t239 => (if t239 = true then ((offcutlaw01_few.f l1).bind fun t240 => (offcutlaw01_NatOrder.j0 k l0 l1 (!t240))) else (offcutlaw01_NatOrder.j0 k l0 l1 true))) = some r := h
  clear h
  have HC3 := Aside0.mk H
  clear H
  go_enter Try.func3, Try.ntmps3
  go_upto_region 1 with (fail)
  go_cut [18] (fun v18 wc => ∃ (kq : Nat) (x18_2 : Bool), v18 = .bool x18_2 ∧ Aside0 (offcutlaw01_NatOrder.j0 kq l0 l1 x18_2 = some r) ∧ Aside0 (kq ≤ k) ∧ Aside0 (Below w.heap.size w wc))
  case first =>
    have H := HC3.out
    clear HC3
    replace H := Option.bind_eq_some_iff.mp H
    obtain ⟨t239, A40, H⟩ := H
    replace H : (if t239 = true then ((offcutlaw01_few.f l1).bind fun t240 => (offcutlaw01_NatOrder.j0 k l0 l1 (!t240))) else (offcutlaw01_NatOrder.j0 k l0 l1 true)) = some r := H
    have A4 := Aside0.mk A40
    clear A40
    by_cases c5 : t239 = true
    · subst c5
      have H1 : ((offcutlaw01_few.f l1).bind fun t240 => (offcutlaw01_NatOrder.j0 k l0 l1 (!t240))) = some r := by rw [if_pos rfl] at H; exact H
      clear H
      have H := H1
      clear H1
      replace H := Option.bind_eq_some_iff.mp H
      obtain ⟨t240, A60, H⟩ := H
      replace H : (offcutlaw01_NatOrder.j0 k l0 l1 (!t240)) = some r := H
      have A6 := Aside0.mk A60
      clear A60
      have H' := Aside0.mk H
      clear H
      go_wp2_with (first | ((with_reducible refine gate_callee (f := 12) rfl ?_); refine goesL_ (some 12) rfl rfl Try.func12 (by kernel_rfl) rfl #[.slice A0 l0.length c0] rfl (by (try simp only [List.map_toArray, List.map_cons, List.map_nil]); first | done | rfl | (simp only [List.length_drop, List.length_take]; rfl)) ?_; (with_reducible refine (offcutlaw01_few.calls _ _ l0 true _ ?side1 ?side2 A4.out).mono ?_); (case side1 => repeat (first | exact (Kd.C_below HR0.out HB.out) | (with_reducible refine Kd.C_alloc ?_ _) | (with_reducible refine Kd.C_drewN ?_ _) | (with_reducible refine Kd.C_drew ?_))); (case side2 => exact HC0.out); rintro e w' ⟨rfl, ⟨nd, rfl⟩⟩; refine ⟨_, rfl, ?_⟩) | (go_at_call 12; (with_reducible refine (offcutlaw01_few.calls _ _ l1 t240 _ ?side1 ?side2 A6.out).mono ?_); (case side1 => repeat (first | exact (Kd.C_below HR1.out (by repeat (first | (with_reducible first | exact HB.out | apply below_alloc | apply pw_below_drewN | apply below_drew1) | exact HB.out))) | (with_reducible refine Kd.C_alloc ?_ _) | (with_reducible refine Kd.C_drewN ?_ _) | (with_reducible refine Kd.C_drew ?_))); (case side2 => exact HC1.out); rintro e w' ⟨rfl, ⟨nd, rfl⟩⟩))
      go_meet
      case rel => exact ⟨_, (!t240), (by first | rfl | (simp; done) | (simp [*]; done)), H', ⟨by first | omega | exact Nat.le_refl _⟩, ⟨by repeat (first | (with_reducible first | exact HB.out | apply below_alloc | apply pw_below_drewN | apply below_drew1) | exact HB.out)⟩⟩
    · replace c5 := Bool.eq_false_iff.mpr c5
      subst c5
      have H1 : (offcutlaw01_NatOrder.j0 k l0 l1 true) = some r := by rw [if_neg (show ¬ (false = true) by decide)] at H; exact H
      clear H
      have H := H1
      clear H1
      have H' := Aside0.mk H
      clear H
      go_wp2_with (first | ((with_reducible refine gate_callee (f := 12) rfl ?_); refine goesL_ (some 12) rfl rfl Try.func12 (by kernel_rfl) rfl #[.slice A0 l0.length c0] rfl (by (try simp only [List.map_toArray, List.map_cons, List.map_nil]); first | done | rfl | (simp only [List.length_drop, List.length_take]; rfl)) ?_; (with_reducible refine (offcutlaw01_few.calls _ _ l0 false _ ?side1 ?side2 A4.out).mono ?_); (case side1 => repeat (first | exact (Kd.C_below HR0.out HB.out) | (with_reducible refine Kd.C_alloc ?_ _) | (with_reducible refine Kd.C_drewN ?_ _) | (with_reducible refine Kd.C_drew ?_))); (case side2 => exact HC0.out); rintro e w' ⟨rfl, ⟨nd, rfl⟩⟩; refine ⟨_, rfl, ?_⟩))
      go_meet
      case rel => exact ⟨_, (true), (by first | rfl | (simp; done) | (simp [*]; done)), H', ⟨by first | omega | exact Nat.le_refl _⟩, ⟨by repeat (first | (with_reducible first | exact HB.out | apply below_alloc | apply pw_below_drewN | apply below_drew1) | exact HB.out)⟩⟩
  case rest =>
    clear HC3
    try clear c1
    try clear p2
    try clear c3
    try clear c5
    obtain ⟨kq, x18_2, rfl, HA, HJ2, HB⟩ := hcut
    cases kq with
    | zero => exact absurd HA.out (by simp [offcutlaw01_NatOrder.j0])
    | succ kj2 =>
      have H := HA.out
      clear HA
      simp only [offcutlaw01_NatOrder.j0] at H
      by_cases c7 : x18_2 = true
      · subst c7
        have H1 : ((offcutlaw01_awake.f kj2).bind fun t241 => (some t241)) = some r := by rw [if_pos rfl] at H; exact H
        clear H
        have H := H1
        clear H1
        replace H := Option.bind_eq_some_iff.mp H
        obtain ⟨t241, A80, H⟩ := H
        replace H : (some t241) = some r := H
        have A8 := Aside0.mk A80
        clear A80
        obtain rfl := Option.some.inj H
        go_wp2_with (first | ((with_reducible refine gate_callee (f := 13) rfl ?_); refine goesL_ (some 19) rfl rfl Try.func13 (by kernel_rfl) rfl #[] rfl (by (try simp only [List.map_toArray, List.map_cons, List.map_nil]); first | done | rfl | (simp only [List.length_drop, List.length_take]; rfl)) ?_; (with_reducible refine (offcutlaw01_awake.calls kj2  t241 _ A8.out).mono ?_); rintro e w9 ⟨rfl, hb⟩; refine ⟨_, rfl, ?_⟩; have n0_ := Aside0.mk (below_step (by repeat (first | (with_reducible first | exact HB.out | apply below_alloc | apply pw_below_drewN | apply below_drew1) | exact HB.out)) hb); clear HB; have HB := n0_; clear n0_; (try clear hb); (try clear hb2); (try clear hk); (try clear hi)))
        go_ret
        exact ⟨by first | rfl | (simp [errW_none, errW_some] <;> rfl) | (simp [*, errW_none, errW_some] <;> rfl), by repeat (first | (with_reducible first | exact HB.out | apply below_alloc | apply pw_below_drewN | apply below_drew1) | exact HB.out)⟩
      · replace c7 := Bool.eq_false_iff.mpr c7
        subst c7
        have H1 : ((offcutref01_Of.f kj2 l0).bind fun t242 => ((offcutref01_Of.f kj2 l1).bind fun t243 => ((offcutref01_Less.f t242 t243).bind fun t244 => (if t244 = true then (offcutlaw01_NatOrder.j1 kj2 l0 l1 t242 t243 (-1)) else (offcutlaw01_NatOrder.j1 kj2 l0 l1 t242 t243 0))))) = some r := by rw [if_neg (show ¬ (false = true) by decide)] at H; exact H
        clear H
        have H := H1
        clear H1
        replace H := Option.bind_eq_some_iff.mp H
        obtain ⟨t242, A100, H⟩ := H
        replace H : ((offcutref01_Of.f kj2 l1).bind fun t243 => ((offcutref01_Less.f t242 t243).bind fun t244 => (if t244 = true then (offcutlaw01_NatOrder.j1 kj2 l0 l1 t242 t243 (-1)) else (offcutlaw01_NatOrder.j1 kj2 l0 l1 t242 t243 0)))) = some r := H
        have A10 := Aside0.mk A100
        clear A100
        replace H := Option.bind_eq_some_iff.mp H
        obtain ⟨t243, A110, H⟩ := H
        replace H : ((offcutref01_Less.f t242 t243).bind fun t244 => (if t244 = true then (offcutlaw01_NatOrder.j1 kj2 l0 l1 t242 t243 (-1)) else (offcutlaw01_NatOrder.j1 kj2 l0 l1 t242 t243 0))) = some r := H
        have A11 := Aside0.mk A110
        clear A110
        replace H := Option.bind_eq_some_iff.mp H
        obtain ⟨t244, A120, H⟩ := H
        replace H : (if t244 = true then (offcutlaw01_NatOrder.j1 kj2 l0 l1 t242 t243 (-1)) else (offcutlaw01_NatOrder.j1 kj2 l0 l1 t242 t243 0)) = some r := H
        have A12 := Aside0.mk A120
        clear A120
        have HC13 := Aside0.mk H
        clear H
        go_upto_if 26 with (first | ((with_reducible refine gate_callee (f := 14) rfl ?_); refine goesL_ (some 21) rfl rfl Try.func14 (by kernel_rfl) rfl #[.slice A0 l0.length c0] rfl (by (try simp only [List.map_toArray, List.map_cons, List.map_nil]); first | done | rfl | (simp only [List.length_drop, List.length_take]; rfl)) ?_; (with_reducible refine (offcutref01_Of.calls kj2 _ _ l0 t242 _ ?side1 ?side2 A10.out).mono ?_); (case side1 => repeat (first | exact (Kd.C_below HR0.out HB.out) | (with_reducible refine Kd.C_alloc ?_ _) | (with_reducible refine Kd.C_drewN ?_ _) | (with_reducible refine Kd.C_drew ?_))); (case side2 => exact HC0.out); rintro e w14 ⟨rfl, hb⟩; refine ⟨_, rfl, ?_⟩; have n0_ := Aside0.mk (below_step (by repeat (first | (with_reducible first | exact HB.out | apply below_alloc | apply pw_below_drewN | apply below_drew1) | exact HB.out)) hb); clear HB; have HB := n0_; clear n0_; (try clear hb); (try clear hb2); (try clear hk); (try clear hi)) | ((with_reducible refine gate_callee (f := 14) rfl ?_); refine goesL_ (some 23) rfl rfl Try.func14 (by kernel_rfl) rfl #[.slice A1 l1.length c1] rfl (by (try simp only [List.map_toArray, List.map_cons, List.map_nil]); first | done | rfl | (simp only [List.length_drop, List.length_take]; rfl)) ?_; (with_reducible refine (offcutref01_Of.calls kj2 _ _ l1 t243 _ ?side1 ?side2 A11.out).mono ?_); (case side1 => repeat (first | exact (Kd.C_below HR1.out HB.out) | (with_reducible refine Kd.C_alloc ?_ _) | (with_reducible refine Kd.C_drewN ?_ _) | (with_reducible refine Kd.C_drew ?_))); (case side2 => exact HC1.out); rintro e w15 ⟨rfl, hb⟩; refine ⟨_, rfl, ?_⟩; have n0_ := Aside0.mk (below_step (by repeat (first | (with_reducible first | exact HB.out | apply below_alloc | apply pw_below_drewN | apply below_drew1) | exact HB.out)) hb); clear HB; have HB := n0_; clear n0_; (try clear hb); (try clear hb2); (try clear hk); (try clear hi)) | ((with_reducible refine gate_callee (f := 15) rfl ?_); refine goesL_ (some 26) rfl rfl Try.func15 (by kernel_rfl) rfl #[.string t242, .string t243] rfl (by (try simp only [List.map_toArray, List.map_cons, List.map_nil]); first | done | rfl | (simp only [List.length_drop, List.length_take]; rfl)) ?_; (with_reducible refine (offcutref01_Less.calls t242 t243 t244 _ A12.out).mono ?_); rintro e w' ⟨rfl, ⟨nd, rfl⟩⟩; refine ⟨_, rfl, ?_⟩))
        (try simp only [Act.put, List.setIfInBounds_toArray, List.set_cons_zero, List.set_cons_succ])
        go_cut [7] (fun v7 wc => ∃ (kq : Nat) (x7_12 : Int), v7 = .int .i64 x7_12 ∧ Aside0 (offcutlaw01_NatOrder.j1 kq l0 l1 t242 t243 x7_12 = some r) ∧ Aside0 (kq ≤ kj2) ∧ Aside0 (Below w.heap.size w wc))
        case first =>
          have H := HC13.out
          clear HC13
          by_cases c16 : t244 = true
          · subst c16
            have H1 : (offcutlaw01_NatOrder.j1 kj2 l0 l1 t242 t243 (-1)) = some r := by rw [if_pos rfl] at H; exact H
            clear H
            have H := H1
            clear H1
            have H' := Aside0.mk H
            clear H
            go_wp2
            go_meet
            case rel => exact ⟨_, ((-1)), (by first | rfl | (simp; done) | (simp [*]; done)), H', ⟨by have := HJ2.out; first | omega | exact Nat.le_refl _⟩, ⟨by repeat (first | (with_reducible first | exact HB.out | apply below_alloc | apply pw_below_drewN | apply below_drew1) | exact HB.out)⟩⟩
          · replace c16 := Bool.eq_false_iff.mpr c16
            subst c16
            have H1 : (offcutlaw01_NatOrder.j1 kj2 l0 l1 t242 t243 0) = some r := by rw [if_neg (show ¬ (false = true) by decide)] at H; exact H
            clear H
            have H := H1
            clear H1
            have H' := Aside0.mk H
            clear H
            go_wp2
            go_meet
            case rel => exact ⟨_, (0), (by first | rfl | (simp; done) | (simp [*]; done)), H', ⟨by have := HJ2.out; first | omega | exact Nat.le_refl _⟩, ⟨by repeat (first | (with_reducible first | exact HB.out | apply below_alloc | apply pw_below_drewN | apply below_drew1) | exact HB.out)⟩⟩
        case rest =>
          clear HC13
          try clear c1
          try clear p2
          try clear c3
          try clear c5
          try clear c7
          try clear c12
          try clear c13
          try clear c14
          try clear c15
          try clear c16
          try clear p2
          obtain ⟨kq, x7_12, rfl, HA, HJ12, HB⟩ := hcut
          cases kq with
          | zero => exact absurd HA.out (by simp [offcutlaw01_NatOrder.j1])
          | succ kj12 =>
            have H := HA.out
            clear HA
            simp only [offcutlaw01_NatOrder.j1] at H
            replace H := Option.bind_eq_some_iff.mp H
            obtain ⟨t245, A170, H⟩ := H
            replace H : (if t245 = true then (offcutlaw01_NatOrder.j2 kj12 l0 l1 t242 1) else (offcutlaw01_NatOrder.j2 kj12 l0 l1 t242 x7_12)) = some r := H
            have A17 := Aside0.mk A170
            clear A170
            have HC18 := Aside0.mk H
            clear H
            go_upto_if 29 with (first | ((with_reducible refine gate_callee (f := 15) rfl ?_); refine goesL_ (some 29) rfl rfl Try.func15 (by kernel_rfl) rfl #[.string t243, .string t242] rfl (by (try simp only [List.map_toArray, List.map_cons, List.map_nil]); first | done | rfl | (simp only [List.length_drop, List.length_take]; rfl)) ?_; (with_reducible refine (offcutref01_Less.calls t243 t242 t245 _ A17.out).mono ?_); rintro e w' ⟨rfl, ⟨nd, rfl⟩⟩; refine ⟨_, rfl, ?_⟩))
            (try simp only [Act.put, List.setIfInBounds_toArray, List.set_cons_zero, List.set_cons_succ])
            go_cut [7] (fun v7 wc => ∃ (kq : Nat) (x7_17 : Int), v7 = .int .i64 x7_17 ∧ Aside0 (offcutlaw01_NatOrder.j2 kq l0 l1 t242 x7_17 = some r) ∧ Aside0 (kq ≤ kj12) ∧ Aside0 (Below w.heap.size w wc))
            case first =>
              have H := HC18.out
              clear HC18
              by_cases c19 : t245 = true
              · subst c19
                have H1 : (offcutlaw01_NatOrder.j2 kj12 l0 l1 t242 1) = some r := by rw [if_pos rfl] at H; exact H
                clear H
                have H := H1
                clear H1
                have H' := Aside0.mk H
                clear H
                go_wp2
                go_meet
                case rel => exact ⟨_, (1), (by first | rfl | (simp; done) | (simp [*]; done)), H', ⟨by have := HJ2.out; have := HJ12.out; first | omega | exact Nat.le_refl _⟩, ⟨by repeat (first | (with_reducible first | exact HB.out | apply below_alloc | apply pw_below_drewN | apply below_drew1) | exact HB.out)⟩⟩
              · replace c19 := Bool.eq_false_iff.mpr c19
                subst c19
                have H1 : (offcutlaw01_NatOrder.j2 kj12 l0 l1 t242 x7_12) = some r := by rw [if_neg (show ¬ (false = true) by decide)] at H; exact H
                clear H
                have H := H1
                clear H1
                have H' := Aside0.mk H
                clear H
                go_wp2
                go_meet
                case rel => exact ⟨_, (x7_12), (by first | rfl | (simp; done) | (simp [*]; done)), H', ⟨by have := HJ2.out; have := HJ12.out; first | omega | exact Nat.le_refl _⟩, ⟨by repeat (first | (with_reducible first | exact HB.out | apply below_alloc | apply pw_below_drewN | apply below_drew1) | exact HB.out)⟩⟩
            case rest =>
              clear HC18
              try clear c1
              try clear p2
              try clear c3
              try clear c5
              try clear c7
              try clear c12
              try clear c13
              try clear c14
              try clear c15
              try clear c16
              try clear c19
              try clear p2
              obtain ⟨kq, x7_17, rfl, HA, HJ17, HB⟩ := hcut
              cases kq with
              | zero => exact absurd HA.out (by simp [offcutlaw01_NatOrder.j2])
              | succ kj17 =>
                have H := HA.out
                clear HA
                simp only [offcutlaw01_NatOrder.j2] at H
                replace H := Option.bind_eq_some_iff.mp H
                obtain ⟨⟨t246, t247⟩, A200, H⟩ := H
                replace H : ((offcutref01_Less.f t242 (⟨#[49, 56, 52, 52, 54, 55, 52, 52, 48, 55, 51, 55, 48, 57, 53, 53, 49, 54, 49, 54]⟩ : ByteArray)).bind fun t248 => (if (t247 != t248) = true then (offcutlaw01_NatOrder.j3 kj17 l0 l1 x7_17 true) else (if t247 = true then ((nat_Of.f kj17 t246).bind fun t249 => ((offcutlaw01_is.f kj17 t249 t242).bind fun t252 => (if t252 = true then (offcutlaw01_NatOrder.j3 kj17 l0 l1 x7_17 false) else (offcutlaw01_NatOrder.j3 kj17 l0 l1 x7_17 true)))) else (offcutlaw01_NatOrder.j3 kj17 l0 l1 x7_17 (t246 != 0))))) = some r := H
                have A20 := Aside0.mk A200
                clear A200
                have HC21 := Aside0.mk H
                clear H
                go_upto_region 10 with (first | ((with_reducible refine gate_callee (f := 16) rfl ?_); refine goesL_ (some 32) rfl rfl Try.func16 (by kernel_rfl) rfl #[.slice A0 l0.length c0] rfl (by (try simp only [List.map_toArray, List.map_cons, List.map_nil]); first | done | rfl | (simp only [List.length_drop, List.length_take]; rfl)) ?_; (with_reducible refine (nat_Small.calls kj17 _ _ l0 t246 t247 _ ?side1 ?side2 A20.out).mono ?_); (case side1 => repeat (first | exact (Kd.C_below HR0.out HB.out) | (with_reducible refine Kd.C_alloc ?_ _) | (with_reducible refine Kd.C_drewN ?_ _) | (with_reducible refine Kd.C_drew ?_))); (case side2 => exact HC0.out); rintro e w22 ⟨rfl, hb⟩; refine ⟨_, rfl, ?_⟩; have n0_ := Aside0.mk (below_step (by repeat (first | (with_reducible first | exact HB.out | apply below_alloc | apply pw_below_drewN | apply below_drew1) | exact HB.out)) hb); clear HB; have HB := n0_; clear n0_; (try clear hb); (try clear hb2); (try clear hk); (try clear hi)))
                (try simp only [Act.put, List.setIfInBounds_toArray, List.set_cons_zero, List.set_cons_succ])
                go_cut [56] (fun v56 wc => ∃ (kq : Nat) (x56_20 : Bool), v56 = .bool x56_20 ∧ Aside0 (offcutlaw01_NatOrder.j3 kq l0 l1 x7_17 x56_20 = some r) ∧ Aside0 (kq ≤ kj17) ∧ Aside0 (Below w.heap.size w wc))
                case first =>
                  have H := HC21.out
                  clear HC21
                  replace H := Option.bind_eq_some_iff.mp H
                  obtain ⟨t248, A230, H⟩ := H
                  replace H : (if (t247 != t248) = true then (offcutlaw01_NatOrder.j3 kj17 l0 l1 x7_17 true) else (if t247 = true then ((nat_Of.f kj17 t246).bind fun t249 => ((offcutlaw01_is.f kj17 t249 t242).bind fun t252 => (if t252 = true then (offcutlaw01_NatOrder.j3 kj17 l0 l1 x7_17 false) else (offcutlaw01_NatOrder.j3 kj17 l0 l1 x7_17 true)))) else (offcutlaw01_NatOrder.j3 kj17 l0 l1 x7_17 (t246 != 0)))) = some r := H
                  have A23 := Aside0.mk A230
                  clear A230
                  by_cases c24 : (t247 != t248) = true
                  · rw [if_pos c24] at H
                    have c24b0 : (t247 != t248) = true := c24
                    (try (have c24b1 : decide (t247 = t248) = false := by simpa using c24))
                    (try (have c24b2 : (t247 == t248) = false := by simpa using c24))
                    (try (have c24b3 : ¬ (t247 = t248) := by simpa using c24))
                    clear c24
                    (first | rw [c24b0] | (simp only [i64_w, i32_w]; rw [c24b0]) | skip)
                    have H' := Aside0.mk H
                    clear H
                    go_wp2_with (first | ((with_reducible refine gate_callee (f := 15) rfl ?_); refine goesL_ (some 37) rfl rfl Try.func15 (by kernel_rfl) rfl #[.string t242, .string (⟨#[49, 56, 52, 52, 54, 55, 52, 52, 48, 55, 51, 55, 48, 57, 53, 53, 49, 54, 49, 54]⟩ : ByteArray)] rfl (by (try simp only [List.map_toArray, List.map_cons, List.map_nil]); first | done | rfl | (simp only [List.length_drop, List.length_take]; rfl)) ?_; (with_reducible refine (offcutref01_Less.calls t242 (⟨#[49, 56, 52, 52, 54, 55, 52, 52, 48, 55, 51, 55, 48, 57, 53, 53, 49, 54, 49, 54]⟩ : ByteArray) t248 _ A23.out).mono ?_); rintro e w' ⟨rfl, ⟨nd, rfl⟩⟩; refine ⟨_, rfl, ?_⟩))
                    go_meet
                    case rel => exact ⟨_, (true), (by first | rfl | (simp; done) | (simp [*]; done)), H', ⟨by have := HJ2.out; have := HJ12.out; have := HJ17.out; first | omega | exact Nat.le_refl _⟩, ⟨by repeat (first | (with_reducible first | exact HB.out | apply below_alloc | apply pw_below_drewN | apply below_drew1) | exact HB.out)⟩⟩
                  · rw [if_neg c24] at H
                    have c24b0 : (t247 != t248) = false := by simpa using c24
                    (try (have c24b1 : decide (t247 = t248) = true := by simpa using c24))
                    (try (have c24b2 : (t247 == t248) = true := by simpa using c24))
                    clear c24
                    (first | rw [c24b0] | (simp only [i64_w, i32_w]; rw [c24b0]) | skip)
                    by_cases c25 : t247 = true
                    · subst c25
                      have H1 : ((nat_Of.f kj17 t246).bind fun t249 => ((offcutlaw01_is.f kj17 t249 t242).bind fun t252 => (if t252 = true then (offcutlaw01_NatOrder.j3 kj17 l0 l1 x7_17 false) else (offcutlaw01_NatOrder.j3 kj17 l0 l1 x7_17 true)))) = some r := by rw [if_pos rfl] at H; exact H
                      clear H
                      have H := H1
                      clear H1
                      replace H := Option.bind_eq_some_iff.mp H
                      obtain ⟨t249, A260, H⟩ := H
                      replace H : ((offcutlaw01_is.f kj17 t249 t242).bind fun t252 => (if t252 = true then (offcutlaw01_NatOrder.j3 kj17 l0 l1 x7_17 false) else (offcutlaw01_NatOrder.j3 kj17 l0 l1 x7_17 true))) = some r := H
                      have A26 := Aside0.mk A260
                      clear A260
                      replace H := Option.bind_eq_some_iff.mp H
                      obtain ⟨t252, A270, H⟩ := H
                      replace H : (if t252 = true then (offcutlaw01_NatOrder.j3 kj17 l0 l1 x7_17 false) else (offcutlaw01_NatOrder.j3 kj17 l0 l1 x7_17 true)) = some r := H
                      have A27 := Aside0.mk A270
                      clear A270
                      by_cases c28 : t252 = true
                      · subst c28
                        have H1 : (offcutlaw01_NatOrder.j3 kj17 l0 l1 x7_17 false) = some r := by rw [if_pos rfl] at H; exact H
                        clear H
                        have H := H1
                        clear H1
                        have H' := Aside0.mk H
                        clear H
                        go_wp2_with (first | ((with_reducible refine gate_callee (f := 15) rfl ?_); refine goesL_ (some 37) rfl rfl Try.func15 (by kernel_rfl) rfl #[.string t242, .string (⟨#[49, 56, 52, 52, 54, 55, 52, 52, 48, 55, 51, 55, 48, 57, 53, 53, 49, 54, 49, 54]⟩ : ByteArray)] rfl (by (try simp only [List.map_toArray, List.map_cons, List.map_nil]); first | done | rfl | (simp only [List.length_drop, List.length_take]; rfl)) ?_; (with_reducible refine (offcutref01_Less.calls t242 (⟨#[49, 56, 52, 52, 54, 55, 52, 52, 48, 55, 51, 55, 48, 57, 53, 53, 49, 54, 49, 54]⟩ : ByteArray) t248 _ A23.out).mono ?_); rintro e w' ⟨rfl, ⟨nd, rfl⟩⟩; refine ⟨_, rfl, ?_⟩) | (go_at_call 18; (with_reducible refine (nat_Of.calls kj17 t246 t249 _ A26.out).mono ?_); rintro e w29 ⟨v250, rfl, ho0, hb⟩; have n0_ := Aside0.mk (Kd.R_lower ho0 (below_size (by repeat (first | (with_reducible first | exact HB.out | apply below_alloc | apply pw_below_drewN | apply below_drew1) | exact HB.out)))); have n1_ := Aside0.mk (below_step (by repeat (first | (with_reducible first | exact HB.out | apply below_alloc | apply pw_below_drewN | apply below_drew1) | exact HB.out)) hb); clear HB; have HO251 := n0_; have HB := n1_; clear n0_ n1_; (try clear hb); (try clear hb2); (try clear hk); (try clear hi); (try clear ho0); obtain ⟨Ao30, co30, eo30⟩ := Kd.R_slice HO251.out; subst eo30) | (go_at_call 17; (with_reducible refine (offcutlaw01_is.calls kj17 _ _ t249 t242 true _ ?side1 ?side2 A27.out).mono ?_); (case side1 => repeat (first | exact (Kd.R_reads' HO251.out).2.2 | (with_reducible refine Kd.C_alloc ?_ _) | (with_reducible refine Kd.C_drewN ?_ _) | (with_reducible refine Kd.C_drew ?_))); (case side2 => exact (Kd.R_reads' HO251.out).2.1); rintro e w31 ⟨rfl, hb⟩; have n0_ := Aside0.mk (Kd.R_below (by (with_reducible repeat (first | apply Kd.R_alloc | apply Kd.R_drewN | apply Kd.R_drew)); exact HO251.out) hb); have n1_ := Aside0.mk (below_step (by repeat (first | (with_reducible first | exact HB.out | apply below_alloc | apply pw_below_drewN | apply below_drew1) | exact HB.out)) hb); clear HO251; clear HB; have HO251 := n0_; have HB := n1_; clear n0_ n1_; (try clear hb); (try clear hb2); (try clear hk); (try clear hi)))
                        go_meet
                        case rel => exact ⟨_, (false), (by first | rfl | (simp; done) | (simp [*]; done)), H', ⟨by have := HJ2.out; have := HJ12.out; have := HJ17.out; first | omega | exact Nat.le_refl _⟩, ⟨by repeat (first | (with_reducible first | exact HB.out | apply below_alloc | apply pw_below_drewN | apply below_drew1) | exact HB.out)⟩⟩
                      · replace c28 := Bool.eq_false_iff.mpr c28
                        subst c28
                        have H1 : (offcutlaw01_NatOrder.j3 kj17 l0 l1 x7_17 true) = some r := by rw [if_neg (show ¬ (false = true) by decide)] at H; exact H
                        clear H
                        have H := H1
                        clear H1
                        have H' := Aside0.mk H
                        clear H
                        go_wp2_with (first | ((with_reducible refine gate_callee (f := 15) rfl ?_); refine goesL_ (some 37) rfl rfl Try.func15 (by kernel_rfl) rfl #[.string t242, .string (⟨#[49, 56, 52, 52, 54, 55, 52, 52, 48, 55, 51, 55, 48, 57, 53, 53, 49, 54, 49, 54]⟩ : ByteArray)] rfl (by (try simp only [List.map_toArray, List.map_cons, List.map_nil]); first | done | rfl | (simp only [List.length_drop, List.length_take]; rfl)) ?_; (with_reducible refine (offcutref01_Less.calls t242 (⟨#[49, 56, 52, 52, 54, 55, 52, 52, 48, 55, 51, 55, 48, 57, 53, 53, 49, 54, 49, 54]⟩ : ByteArray) t248 _ A23.out).mono ?_); rintro e w' ⟨rfl, ⟨nd, rfl⟩⟩; refine ⟨_, rfl, ?_⟩) | (go_at_call 18; (with_reducible refine (nat_Of.calls kj17 t246 t249 _ A26.out).mono ?_); rintro e w32 ⟨v250, rfl, ho0, hb⟩; have n0_ := Aside0.mk (Kd.R_lower ho0 (below_size (by repeat (first | (with_reducible first | exact HB.out | apply below_alloc | apply pw_below_drewN | apply below_drew1) | exact HB.out)))); have n1_ := Aside0.mk (below_step (by repeat (first | (with_reducible first | exact HB.out | apply below_alloc | apply pw_below_drewN | apply below_drew1) | exact HB.out)) hb); clear HB; have HO251 := n0_; have HB := n1_; clear n0_ n1_; (try clear hb); (try clear hb2); (try clear hk); (try clear hi); (try clear ho0); obtain ⟨Ao33, co33, eo33⟩ := Kd.R_slice HO251.out; subst eo33) | (go_at_call 17; (with_reducible refine (offcutlaw01_is.calls kj17 _ _ t249 t242 false _ ?side1 ?side2 A27.out).mono ?_); (case side1 => repeat (first | exact (Kd.R_reads' HO251.out).2.2 | (with_reducible refine Kd.C_alloc ?_ _) | (with_reducible refine Kd.C_drewN ?_ _) | (with_reducible refine Kd.C_drew ?_))); (case side2 => exact (Kd.R_reads' HO251.out).2.1); rintro e w34 ⟨rfl, hb⟩; have n0_ := Aside0.mk (Kd.R_below (by (with_reducible repeat (first | apply Kd.R_alloc | apply Kd.R_drewN | apply Kd.R_drew)); exact HO251.out) hb); have n1_ := Aside0.mk (below_step (by repeat (first | (with_reducible first | exact HB.out | apply below_alloc | apply pw_below_drewN | apply below_drew1) | exact HB.out)) hb); clear HO251; clear HB; have HO251 := n0_; have HB := n1_; clear n0_ n1_; (try clear hb); (try clear hb2); (try clear hk); (try clear hi)))
                        go_meet
                        case rel => exact ⟨_, (true), (by first | rfl | (simp; done) | (simp [*]; done)), H', ⟨by have := HJ2.out; have := HJ12.out; have := HJ17.out; first | omega | exact Nat.le_refl _⟩, ⟨by repeat (first | (with_reducible first | exact HB.out | apply below_alloc | apply pw_below_drewN | apply below_drew1) | exact HB.out)⟩⟩
                    · replace c25 := Bool.eq_false_iff.mpr c25
                      subst c25
                      have H1 : (offcutlaw01_NatOrder.j3 kj17 l0 l1 x7_17 (t246 != 0)) = some r := by rw [if_neg (show ¬ (false = true) by decide)] at H; exact H
                      clear H
                      have H := H1
                      clear H1
                      have H' := Aside0.mk H
                      clear H
                      go_wp2_with (first | ((with_reducible refine gate_callee (f := 15) rfl ?_); refine goesL_ (some 37) rfl rfl Try.func15 (by kernel_rfl) rfl #[.string t242, .string (⟨#[49, 56, 52, 52, 54, 55, 52, 52, 48, 55, 51, 55, 48, 57, 53, 53, 49, 54, 49, 54]⟩ : ByteArray)] rfl (by (try simp only [List.map_toArray, List.map_cons, List.map_nil]); first | done | rfl | (simp only [List.length_drop, List.length_take]; rfl)) ?_; (with_reducible refine (offcutref01_Less.calls t242 (⟨#[49, 56, 52, 52, 54, 55, 52, 52, 48, 55, 51, 55, 48, 57, 53, 53, 49, 54, 49, 54]⟩ : ByteArray) t248 _ A23.out).mono ?_); rintro e w' ⟨rfl, ⟨nd, rfl⟩⟩; refine ⟨_, rfl, ?_⟩))
                      go_meet
                      case rel => exact ⟨_, ((t246 != 0)), (by first | rfl | (simp; done) | (simp [*]; done)), H', ⟨by have := HJ2.out; have := HJ12.out; have := HJ17.out; first | omega | exact Nat.le_refl _⟩, ⟨by repeat (first | (with_reducible first | exact HB.out | apply below_alloc | apply pw_below_drewN | apply below_drew1) | exact HB.out)⟩⟩
                case rest =>
                  clear HC21
                  try clear c1
                  try clear c2
                  try clear p2
                  try clear c3
                  try clear c5
                  try clear c7
                  try clear c12
                  try clear c13
                  try clear c14
                  try clear c15
                  try clear c16
                  try clear c19
                  try clear c24
                  try clear c24b0
                  try clear c24b1
                  try clear c24b2
                  try clear c25
                  try clear c28
                  try clear p2
                  obtain ⟨kq, x56_20, rfl, HA, HJ20, HB⟩ := hcut
                  cases kq with
                  | zero => exact absurd HA.out (by simp [offcutlaw01_NatOrder.j3])
                  | succ kj20 =>
                    have H := HA.out
                    clear HA
                    simp only [offcutlaw01_NatOrder.j3] at H
                    by_cases c35 : x56_20 = true
                    · subst c35
                      have H1 : (some false) = some r := by rw [if_pos rfl] at H; exact H
                      clear H
                      have H := H1
                      clear H1
                      obtain rfl := Option.some.inj H
                      go_wp2
                      go_ret
                      exact ⟨by first | rfl | (simp [errW_none, errW_some] <;> rfl) | (simp [*, errW_none, errW_some] <;> rfl), by repeat (first | (with_reducible first | exact HB.out | apply below_alloc | apply pw_below_drewN | apply below_drew1) | exact HB.out)⟩
                    · replace c35 := Bool.eq_false_iff.mpr c35
                      subst c35
                      have H1 : (if (l0.length : Int) = 0 then ((nat_Compare.f kj20 l0 l1).bind fun t253 => (if t253 = x7_17 then ((nat_Right.f l0).bind fun t254 => (if (t254 == true) = true then ((offcutlaw01_awake.f kj20).bind fun t255 => (some t255)) else (some false))) else (some false))) else (if 0 ≤ (wrap64 ((l0.length : Int) - 1)) then (if (wrap64 ((l0.length : Int) - 1)) < (l0.length : Int) then ((nat_Compare.f kj20 l0 l1).bind fun t257 => (if t257 = x7_17 then ((nat_Right.f l0).bind fun t258 => (if (t258 == ((rd l0 (wrap64 ((l0.length : Int) - 1))) != 0)) = true then ((offcutlaw01_awake.f kj20).bind fun t259 => (some t259)) else (some false))) else (some false))) else (none)) else (none))) = some r := by rw [if_neg (show ¬ (false = true) by decide)] at H; exact H
                      clear H
                      have H := H1
                      clear H1
                      by_cases c36 : (l0.length : Int) = 0
                      · rw [if_pos c36] at H
                        have c36b0 : ((l0.length : Int) == 0) = true := beq_iff_eq.mpr c36
                        have c36b1 : ((l0.length : Int) != 0) = false := bne_eq_false_iff_eq.mpr c36
                        clear c36
                        replace H := Option.bind_eq_some_iff.mp H
                        obtain ⟨t253, A370, H⟩ := H
                        replace H : (if t253 = x7_17 then ((nat_Right.f l0).bind fun t254 => (if (t254 == true) = true then ((offcutlaw01_awake.f kj20).bind fun t255 => (some t255)) else (some false))) else (some false)) = some r := H
                        have A37 := Aside0.mk A370
                        clear A370
                        by_cases c38 : t253 = x7_17
                        · rw [if_pos c38] at H
                          have c38b0 : (t253 == x7_17) = true := beq_iff_eq.mpr c38
                          have c38b1 : (t253 != x7_17) = false := bne_eq_false_iff_eq.mpr c38
                          clear c38
                          replace H := Option.bind_eq_some_iff.mp H
                          obtain ⟨t254, A390, H⟩ := H
                          replace H : (if (t254 == true) = true then ((offcutlaw01_awake.f kj20).bind fun t255 => (some t255)) else (some false)) = some r := H
                          have A39 := Aside0.mk A390
                          clear A390
                          by_cases c40 : (t254 == true) = true
                          · rw [if_pos c40] at H
                            have c40b0 : (t254 == true) = true := c40
                            (try (have c40b1 : decide (t254 = true) = true := by simpa using c40))
                            (try (have c40b2 : (t254 == true) = true := by simpa using c40))
                            clear c40
                            replace H := Option.bind_eq_some_iff.mp H
                            obtain ⟨t255, A410, H⟩ := H
                            replace H : (some t255) = some r := H
                            have A41 := Aside0.mk A410
                            clear A410
                            obtain rfl := Option.some.inj H
                            go_wp2_with (first | ((with_reducible refine gate_callee (f := 19) rfl ?_); refine goesL_ (some 71) rfl rfl Try.func19 (by kernel_rfl) rfl #[.slice A0 l0.length c0, .slice A1 l1.length c1] rfl (by (try simp only [List.map_toArray, List.map_cons, List.map_nil]); first | done | rfl | (simp only [List.length_drop, List.length_take]; rfl)) ?_; (with_reducible refine (nat_Compare.calls kj20 _ _ l0 _ _ l1 t253 _ ?side1 ?side2 ?side3 ?side4 A37.out).mono ?_); (case side1 => repeat (first | exact (Kd.C_below HR0.out HB.out) | (with_reducible refine Kd.C_alloc ?_ _) | (with_reducible refine Kd.C_drewN ?_ _) | (with_reducible refine Kd.C_drew ?_))); (case side2 => exact HC0.out); (case side3 => repeat (first | exact (Kd.C_below HR1.out HB.out) | (with_reducible refine Kd.C_alloc ?_ _) | (with_reducible refine Kd.C_drewN ?_ _) | (with_reducible refine Kd.C_drew ?_))); (case side4 => exact HC1.out); rintro e w42 ⟨rfl, hb⟩; refine ⟨_, rfl, ?_⟩; have n0_ := Aside0.mk (below_step (by repeat (first | (with_reducible first | exact HB.out | apply below_alloc | apply pw_below_drewN | apply below_drew1) | exact HB.out)) hb); clear HB; have HB := n0_; clear n0_; (try clear hb); (try clear hb2); (try clear hk); (try clear hi)) | (go_at_call 20; (with_reducible refine (nat_Right.calls _ _ l0 t254 _ ?side1 ?side2 A39.out).mono ?_); (case side1 => repeat (first | exact (Kd.C_below HR0.out HB.out) | (with_reducible refine Kd.C_alloc ?_ _) | (with_reducible refine Kd.C_drewN ?_ _) | (with_reducible refine Kd.C_drew ?_))); (case side2 => exact HC0.out); rintro e w' ⟨rfl, ⟨nd, rfl⟩⟩) | (go_at_call 13; (with_reducible refine (offcutlaw01_awake.calls kj20  t255 _ A41.out).mono ?_); rintro e w43 ⟨rfl, hb⟩; have n0_ := Aside0.mk (below_step (by repeat (first | (with_reducible first | exact HB.out | apply below_alloc | apply pw_below_drewN | apply below_drew1) | exact HB.out)) hb); clear HB; have HB := n0_; clear n0_; (try clear hb); (try clear hb2); (try clear hk); (try clear hi)))
                            go_ret
                            exact ⟨by first | rfl | (simp [errW_none, errW_some] <;> rfl) | (simp [*, errW_none, errW_some] <;> rfl), by repeat (first | (with_reducible first | exact HB.out | apply below_alloc | apply pw_below_drewN | apply below_drew1) | exact HB.out)⟩
                          · rw [if_neg c40] at H
                            have c40b0 : (t254 == true) = false := by simpa using c40
                            (try (have c40b1 : decide (t254 = true) = false := by simpa using c40))
                            (try (have c40b2 : (t254 == true) = false := by simpa using c40))
                            (try (have c40b3 : ¬ (t254 = true) := by simpa using c40))
                            clear c40
                            obtain rfl := Option.some.inj H
                            go_wp2_with (first | ((with_reducible refine gate_callee (f := 19) rfl ?_); refine goesL_ (some 71) rfl rfl Try.func19 (by kernel_rfl) rfl #[.slice A0 l0.length c0, .slice A1 l1.length c1] rfl (by (try simp only [List.map_toArray, List.map_cons, List.map_nil]); first | done | rfl | (simp only [List.length_drop, List.length_take]; rfl)) ?_; (with_reducible refine (nat_Compare.calls kj20 _ _ l0 _ _ l1 t253 _ ?side1 ?side2 ?side3 ?side4 A37.out).mono ?_); (case side1 => repeat (first | exact (Kd.C_below HR0.out HB.out) | (with_reducible refine Kd.C_alloc ?_ _) | (with_reducible refine Kd.C_drewN ?_ _) | (with_reducible refine Kd.C_drew ?_))); (case side2 => exact HC0.out); (case side3 => repeat (first | exact (Kd.C_below HR1.out HB.out) | (with_reducible refine Kd.C_alloc ?_ _) | (with_reducible refine Kd.C_drewN ?_ _) | (with_reducible refine Kd.C_drew ?_))); (case side4 => exact HC1.out); rintro e w44 ⟨rfl, hb⟩; refine ⟨_, rfl, ?_⟩; have n0_ := Aside0.mk (below_step (by repeat (first | (with_reducible first | exact HB.out | apply below_alloc | apply pw_below_drewN | apply below_drew1) | exact HB.out)) hb); clear HB; have HB := n0_; clear n0_; (try clear hb); (try clear hb2); (try clear hk); (try clear hi)) | (go_at_call 20; (with_reducible refine (nat_Right.calls _ _ l0 t254 _ ?side1 ?side2 A39.out).mono ?_); (case side1 => repeat (first | exact (Kd.C_below HR0.out HB.out) | (with_reducible refine Kd.C_alloc ?_ _) | (with_reducible refine Kd.C_drewN ?_ _) | (with_reducible refine Kd.C_drew ?_))); (case side2 => exact HC0.out); rintro e w' ⟨rfl, ⟨nd, rfl⟩⟩))
                            go_ret
                            exact ⟨by first | rfl | (simp [errW_none, errW_some] <;> rfl) | (simp [*, errW_none, errW_some] <;> rfl), by repeat (first | (with_reducible first | exact HB.out | apply below_alloc | apply pw_below_drewN | apply below_drew1) | exact HB.out)⟩
                        · rw [if_neg c38] at H
                          have c38b0 : (t253 == x7_17) = false := beq_eq_false_iff_ne.mpr c38
                          have c38b1 : (t253 != x7_17) = true := bne_iff_ne.mpr c38
                          obtain rfl := Option.some.inj H
                          go_wp2_with (first | ((with_reducible refine gate_callee (f := 19) rfl ?_); refine goesL_ (some 71) rfl rfl Try.func19 (by kernel_rfl) rfl #[.slice A0 l0.length c0, .slice A1 l1.length c1] rfl (by (try simp only [List.map_toArray, List.map_cons, List.map_nil]); first | done | rfl | (simp only [List.length_drop, List.length_take]; rfl)) ?_; (with_reducible refine (nat_Compare.calls kj20 _ _ l0 _ _ l1 t253 _ ?side1 ?side2 ?side3 ?side4 A37.out).mono ?_); (case side1 => repeat (first | exact (Kd.C_below HR0.out HB.out) | (with_reducible refine Kd.C_alloc ?_ _) | (with_reducible refine Kd.C_drewN ?_ _) | (with_reducible refine Kd.C_drew ?_))); (case side2 => exact HC0.out); (case side3 => repeat (first | exact (Kd.C_below HR1.out HB.out) | (with_reducible refine Kd.C_alloc ?_ _) | (with_reducible refine Kd.C_drewN ?_ _) | (with_reducible refine Kd.C_drew ?_))); (case side4 => exact HC1.out); rintro e w45 ⟨rfl, hb⟩; refine ⟨_, rfl, ?_⟩; have n0_ := Aside0.mk (below_step (by repeat (first | (with_reducible first | exact HB.out | apply below_alloc | apply pw_below_drewN | apply below_drew1) | exact HB.out)) hb); clear HB; have HB := n0_; clear n0_; (try clear hb); (try clear hb2); (try clear hk); (try clear hi)))
                          go_ret
                          exact ⟨by first | rfl | (simp [errW_none, errW_some] <;> rfl) | (simp [*, errW_none, errW_some] <;> rfl), by repeat (first | (with_reducible first | exact HB.out | apply below_alloc | apply pw_below_drewN | apply below_drew1) | exact HB.out)⟩
                      · rw [if_neg c36] at H
                        have c36b0 : ((l0.length : Int) == 0) = false := beq_eq_false_iff_ne.mpr c36
                        have c36b1 : ((l0.length : Int) != 0) = true := bne_iff_ne.mpr c36
                        have c36b2 : ¬ (l0 = []) := fun h_ => c36 (by rw [h_]; rfl)
                        obtain ⟨ji46, hji46⟩ : ∃ j_ : Int, (wrap64 ((l0.length : Int) - 1)) = j_ := ⟨_, rfl⟩
                        replace H : (if 0 ≤ (ji46) then (if (ji46) < (l0.length : Int) then ((nat_Compare.f kj20 l0 l1).bind fun t257 => (if t257 = x7_17 then ((nat_Right.f l0).bind fun t258 => (if (t258 == ((rd l0 (ji46)) != 0)) = true then ((offcutlaw01_awake.f kj20).bind fun t259 => (some t259)) else (some false))) else (some false))) else (none)) else (none)) = some r := by first | (rw [hji46] at H; exact H) | (simp only [hji46] at H ⊢; exact H)
                        have hji46w : (IntKind.i64.wrap ((l0.length : Int) - 1)) = ji46 := (i64_w _).trans hji46
                        by_cases c47 : 0 ≤ (ji46)
                        · rw [if_pos c47] at H
                          have c47b0 : decide (0 ≤ (ji46)) = true := decide_eq_true c47
                          clear c47
                          by_cases c48 : (ji46) < (l0.length : Int)
                          · rw [if_pos c48] at H
                            have c48b0 : decide ((ji46) < (l0.length : Int)) = true := decide_eq_true c48
                            clear c48
                            replace H := Option.bind_eq_some_iff.mp H
                            obtain ⟨t257, A490, H⟩ := H
                            replace H : (if t257 = x7_17 then ((nat_Right.f l0).bind fun t258 => (if (t258 == ((rd l0 (ji46)) != 0)) = true then ((offcutlaw01_awake.f kj20).bind fun t259 => (some t259)) else (some false))) else (some false)) = some r := H
                            have A49 := Aside0.mk A490
                            clear A490
                            by_cases c50 : t257 = x7_17
                            · rw [if_pos c50] at H
                              have c50b0 : (t257 == x7_17) = true := beq_iff_eq.mpr c50
                              have c50b1 : (t257 != x7_17) = false := bne_eq_false_iff_eq.mpr c50
                              clear c50
                              replace H := Option.bind_eq_some_iff.mp H
                              obtain ⟨t258, A510, H⟩ := H
                              replace H : (if (t258 == ((rd l0 (ji46)) != 0)) = true then ((offcutlaw01_awake.f kj20).bind fun t259 => (some t259)) else (some false)) = some r := H
                              have A51 := Aside0.mk A510
                              clear A510
                              by_cases c52 : (t258 == ((rd l0 (ji46)) != 0)) = true
                              · rw [if_pos c52] at H
                                have c52b0 : (t258 == ((rd l0 (ji46)) != 0)) = true := c52
                                (try (have c52b1 : decide (t258 = ((rd l0 (ji46)) != 0)) = true := by simpa using c52))
                                (try (have c52b2 : (t258 == ((rd l0 (ji46)) != 0)) = true := by simpa using c52))
                                clear c52
                                replace H := Option.bind_eq_some_iff.mp H
                                obtain ⟨t259, A530, H⟩ := H
                                replace H : (some t259) = some r := H
                                have A53 := Aside0.mk A530
                                clear A530
                                obtain rfl := Option.some.inj H
                                have p256 : 0 ≤ ((ji46) : Int) := of_decide_eq_true (by first | (with_reducible assumption) | assumption)
                                have q256 : (ji46) < (l0.length : Int) := of_decide_eq_true (by first | (with_reducible assumption) | assumption)
                                obtain ⟨ad256, e256, hx256_0⟩ := Kd.at_int HR0.out (ji46) p256 q256
                                cases e256
                                replace hx256_0 := (HB.out.cell (World.block_lt_of_cell? w _ hx256_0)).trans hx256_0
                                replace p256 := eq_true p256
                                replace q256 := eq_true q256
                                go_wp2_with (first | ((with_reducible refine gate_callee (f := 19) rfl ?_); refine goesL_ (some 71) rfl rfl Try.func19 (by kernel_rfl) rfl #[.slice (some ad256) l0.length c0, .slice A1 l1.length c1] rfl (by (try simp only [List.map_toArray, List.map_cons, List.map_nil]); first | done | rfl | (simp only [List.length_drop, List.length_take]; rfl)) ?_; (with_reducible refine (nat_Compare.calls kj20 _ _ l0 _ _ l1 t257 _ ?side1 ?side2 ?side3 ?side4 A49.out).mono ?_); (case side1 => repeat (first | exact (Kd.C_below HR0.out HB.out) | (with_reducible refine Kd.C_alloc ?_ _) | (with_reducible refine Kd.C_drewN ?_ _) | (with_reducible refine Kd.C_drew ?_))); (case side2 => exact HC0.out); (case side3 => repeat (first | exact (Kd.C_below HR1.out HB.out) | (with_reducible refine Kd.C_alloc ?_ _) | (with_reducible refine Kd.C_drewN ?_ _) | (with_reducible refine Kd.C_drew ?_))); (case side4 => exact HC1.out); rintro e w54 ⟨rfl, hb⟩; refine ⟨_, rfl, ?_⟩; have n0_ := Aside0.mk (below_step (by repeat (first | (with_reducible first | exact HB.out | apply below_alloc | apply pw_below_drewN | apply below_drew1) | exact HB.out)) hb); clear HB; have HB := n0_; clear n0_; (try clear hb); (try clear hb2); (try clear hk); (try clear hi)) | (go_at_call 20; (with_reducible refine (nat_Right.calls _ _ l0 t258 _ ?side1 ?side2 A51.out).mono ?_); (case side1 => repeat (first | exact (Kd.C_below HR0.out HB.out) | (with_reducible refine Kd.C_alloc ?_ _) | (with_reducible refine Kd.C_drewN ?_ _) | (with_reducible refine Kd.C_drew ?_))); (case side2 => exact HC0.out); rintro e w' ⟨rfl, ⟨nd, rfl⟩⟩) | (go_at_call 13; (with_reducible refine (offcutlaw01_awake.calls kj20  t259 _ A53.out).mono ?_); rintro e w55 ⟨rfl, hb⟩; have n0_ := Aside0.mk (below_step (by repeat (first | (with_reducible first | exact HB.out | apply below_alloc | apply pw_below_drewN | apply below_drew1) | exact HB.out)) hb); clear HB; have HB := n0_; clear n0_; (try clear hb); (try clear hb2); (try clear hk); (try clear hi)))
                                go_ret
                                exact ⟨by first | rfl | (simp [errW_none, errW_some] <;> rfl) | (simp only [← hji46]; first | rfl | (simp [errW_none, errW_some] <;> rfl)) | (simp [*, errW_none, errW_some] <;> rfl), by repeat (first | (with_reducible first | exact HB.out | apply below_alloc | apply pw_below_drewN | apply below_drew1) | exact HB.out)⟩
                              · rw [if_neg c52] at H
                                have c52b0 : (t258 == ((rd l0 (ji46)) != 0)) = false := by simpa using c52
                                (try (have c52b1 : decide (t258 = ((rd l0 (ji46)) != 0)) = false := by simpa using c52))
                                (try (have c52b2 : (t258 == ((rd l0 (ji46)) != 0)) = false := by simpa using c52))
                                (try (have c52b3 : ¬ (t258 = ((rd l0 (ji46)) != 0)) := by simpa using c52))
                                clear c52
                                obtain rfl := Option.some.inj H
                                have p256 : 0 ≤ ((ji46) : Int) := of_decide_eq_true (by first | (with_reducible assumption) | assumption)
                                have q256 : (ji46) < (l0.length : Int) := of_decide_eq_true (by first | (with_reducible assumption) | assumption)
                                obtain ⟨ad256, e256, hx256_0⟩ := Kd.at_int HR0.out (ji46) p256 q256
                                cases e256
                                replace hx256_0 := (HB.out.cell (World.block_lt_of_cell? w _ hx256_0)).trans hx256_0
                                replace p256 := eq_true p256
                                replace q256 := eq_true q256
                                go_wp2_with (first | ((with_reducible refine gate_callee (f := 19) rfl ?_); refine goesL_ (some 71) rfl rfl Try.func19 (by kernel_rfl) rfl #[.slice (some ad256) l0.length c0, .slice A1 l1.length c1] rfl (by (try simp only [List.map_toArray, List.map_cons, List.map_nil]); first | done | rfl | (simp only [List.length_drop, List.length_take]; rfl)) ?_; (with_reducible refine (nat_Compare.calls kj20 _ _ l0 _ _ l1 t257 _ ?side1 ?side2 ?side3 ?side4 A49.out).mono ?_); (case side1 => repeat (first | exact (Kd.C_below HR0.out HB.out) | (with_reducible refine Kd.C_alloc ?_ _) | (with_reducible refine Kd.C_drewN ?_ _) | (with_reducible refine Kd.C_drew ?_))); (case side2 => exact HC0.out); (case side3 => repeat (first | exact (Kd.C_below HR1.out HB.out) | (with_reducible refine Kd.C_alloc ?_ _) | (with_reducible refine Kd.C_drewN ?_ _) | (with_reducible refine Kd.C_drew ?_))); (case side4 => exact HC1.out); rintro e w56 ⟨rfl, hb⟩; refine ⟨_, rfl, ?_⟩; have n0_ := Aside0.mk (below_step (by repeat (first | (with_reducible first | exact HB.out | apply below_alloc | apply pw_below_drewN | apply below_drew1) | exact HB.out)) hb); clear HB; have HB := n0_; clear n0_; (try clear hb); (try clear hb2); (try clear hk); (try clear hi)) | (go_at_call 20; (with_reducible refine (nat_Right.calls _ _ l0 t258 _ ?side1 ?side2 A51.out).mono ?_); (case side1 => repeat (first | exact (Kd.C_below HR0.out HB.out) | (with_reducible refine Kd.C_alloc ?_ _) | (with_reducible refine Kd.C_drewN ?_ _) | (with_reducible refine Kd.C_drew ?_))); (case side2 => exact HC0.out); rintro e w' ⟨rfl, ⟨nd, rfl⟩⟩))
                                go_ret
                                exact ⟨by first | rfl | (simp [errW_none, errW_some] <;> rfl) | (simp only [← hji46]; first | rfl | (simp [errW_none, errW_some] <;> rfl)) | (simp [*, errW_none, errW_some] <;> rfl), by repeat (first | (with_reducible first | exact HB.out | apply below_alloc | apply pw_below_drewN | apply below_drew1) | exact HB.out)⟩
                            · rw [if_neg c50] at H
                              have c50b0 : (t257 == x7_17) = false := beq_eq_false_iff_ne.mpr c50
                              have c50b1 : (t257 != x7_17) = true := bne_iff_ne.mpr c50
                              obtain rfl := Option.some.inj H
                              have p256 : 0 ≤ ((ji46) : Int) := of_decide_eq_true (by first | (with_reducible assumption) | assumption)
                              have q256 : (ji46) < (l0.length : Int) := of_decide_eq_true (by first | (with_reducible assumption) | assumption)
                              obtain ⟨ad256, e256, hx256_0⟩ := Kd.at_int HR0.out (ji46) p256 q256
                              cases e256
                              replace hx256_0 := (HB.out.cell (World.block_lt_of_cell? w _ hx256_0)).trans hx256_0
                              replace p256 := eq_true p256
                              replace q256 := eq_true q256
                              go_wp2_with (first | ((with_reducible refine gate_callee (f := 19) rfl ?_); refine goesL_ (some 71) rfl rfl Try.func19 (by kernel_rfl) rfl #[.slice (some ad256) l0.length c0, .slice A1 l1.length c1] rfl (by (try simp only [List.map_toArray, List.map_cons, List.map_nil]); first | done | rfl | (simp only [List.length_drop, List.length_take]; rfl)) ?_; (with_reducible refine (nat_Compare.calls kj20 _ _ l0 _ _ l1 t257 _ ?side1 ?side2 ?side3 ?side4 A49.out).mono ?_); (case side1 => repeat (first | exact (Kd.C_below HR0.out HB.out) | (with_reducible refine Kd.C_alloc ?_ _) | (with_reducible refine Kd.C_drewN ?_ _) | (with_reducible refine Kd.C_drew ?_))); (case side2 => exact HC0.out); (case side3 => repeat (first | exact (Kd.C_below HR1.out HB.out) | (with_reducible refine Kd.C_alloc ?_ _) | (with_reducible refine Kd.C_drewN ?_ _) | (with_reducible refine Kd.C_drew ?_))); (case side4 => exact HC1.out); rintro e w57 ⟨rfl, hb⟩; refine ⟨_, rfl, ?_⟩; have n0_ := Aside0.mk (below_step (by repeat (first | (with_reducible first | exact HB.out | apply below_alloc | apply pw_below_drewN | apply below_drew1) | exact HB.out)) hb); clear HB; have HB := n0_; clear n0_; (try clear hb); (try clear hb2); (try clear hk); (try clear hi)))
                              go_ret
                              exact ⟨by first | rfl | (simp [errW_none, errW_some] <;> rfl) | (simp only [← hji46]; first | rfl | (simp [errW_none, errW_some] <;> rfl)) | (simp [*, errW_none, errW_some] <;> rfl), by repeat (first | (with_reducible first | exact HB.out | apply below_alloc | apply pw_below_drewN | apply below_drew1) | exact HB.out)⟩
                          · rw [if_neg c48] at H
                            exact absurd H (by simp)
                        · rw [if_neg c47] at H
                          exact absurd H (by simp)

/-- THE ONE PURE STATEMENT of offcutlaw01_NatOrder: yours. -/
def offcutlaw01_NatOrder.Pure : Prop := ∀ (l0 : List Int) (l1 : List Int), l0.length ≤ maxLen → l0.length * 4 ≤ 140737488351232 → (∀ x ∈ l0, (Lit.int .u32 x).wf = true) → l1.length ≤ maxLen → l1.length * 4 ≤ 140737488351232 → (∀ x ∈ l1, (Lit.int .u32 x).wf = true) → ∃ k, offcutlaw01_NatOrder.f k l0 l1 = some true
theorem offcutlaw01_NatOrder.walk (P : offcutlaw01_NatOrder.Pure) (a0 : Option Addr) (len0 cap0 : Nat) (z0 : List Int) (a1 : Option Addr) (len1 cap1 : Nat) (z1 : List Int) (w : World) (w0 : (a0 = none ∧ len0 = 0 ∧ cap0 = 0 ∧ z0 = []) ∨ ∃ x, a0 = some x ∧ len0 ≤ cap0 ∧ cap0 ≤ maxLen ∧ z0.length = cap0 ∧ (∀ i, i < z0.length → w.cell? (x.add i) = some (.int .u32 (z0.getD i 0))) ∧ ∀ n ∈ z0, (Lit.int .u32 n).wf = true) (y0 : len0 * 4 ≤ 140737488351232) (w1 : (a1 = none ∧ len1 = 0 ∧ cap1 = 0 ∧ z1 = []) ∨ ∃ x, a1 = some x ∧ len1 ≤ cap1 ∧ cap1 ≤ maxLen ∧ z1.length = cap1 ∧ (∀ i, i < z1.length → w.cell? (x.add i) = some (.int .u32 (z1.getD i 0))) ∧ ∀ n ∈ z1, (Lit.int .u32 n).wf = true) (y1 : len1 * 4 ≤ 140737488351232) :
    Calls Try.prog 3 #[.slice a0 len0 cap0, .slice a1 len1 cap1] w fun e w' => e = .returned (.bool true) ∧ Below w.heap.size w w' := by
  obtain ⟨l0, rfl, hr0, hm0, hw0, hc0⟩ := ReadsInt.ofRowC w0
  obtain ⟨l1, rfl, hr1, hm1, hw1, hc1⟩ := ReadsInt.ofRowC w1
  obtain ⟨k, h⟩ := P l0 l1 hm0 y0 hw0 hm1 y1 hw1
  refine (offcutlaw01_NatOrder.calls k _ _ l0 _ _ l1 true w (Kd.C_of_reads (d := (0 : Int)) (h1 := fun _ => rfl) hr0) hc0 (Kd.C_of_reads (d := (0 : Int)) (h1 := fun _ => rfl) hr1) hc1 h).mono ?_
  rintro e w' ⟨rfl, hd⟩
  exact ⟨rfl, hd⟩

end Go.Proofs.Ytmodmjeibbgdgaa.PR
