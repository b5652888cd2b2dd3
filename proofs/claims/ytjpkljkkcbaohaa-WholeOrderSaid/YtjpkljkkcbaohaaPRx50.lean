import Derived.Test.YtjpkljkkcbaohaaPRg0
import Derived.Test.YtjpkljkkcbaohaaPRg9
import Derived.Test.YtjpkljkkcbaohaaPRg28
import Derived.Test.YtjpkljkkcbaohaaPRg32
import Derived.Test.YtjpkljkkcbaohaaPRg41
import Derived.Test.YtjpkljkkcbaohaaPRx49
namespace Go.Proofs.Ytjpkljkkcbaohaa.PR
open Go.RowKit Go.Proofs.YtjpkljkkcbaohaaW.PrintWords Go.Proofs.YtjpkljkkcbaohaaW.PrintLast Go.Proofs.YtjpkljkkcbaohaaW.PrintMore
attribute [local go_sem] max2_int min2_int max_two min_two max_three min_three max_four min_four   -- for this text's walks alone
set_option linter.unusedVariables false
set_option linter.unusedSimpArgs false

/-! ### offcutlaw02_WholeOrder: function 4 -/
mutual
def offcutlaw02_WholeOrder.j0 : Nat → Bool → Bool → List Int → Bool → List Int → Option (Bool)
  | 0, _, _, _, _, _ => none
  | k + 1, x17, x489000, x489001, x490000, x490001 => if x17 = true then ((offcutlaw02_awake.f k).bind fun t492 => (some t492)) else ((offcutlaw02_of.f k x489000 x489001).bind fun t493 => ((offcutlaw02_of.f k x490000 x490001).bind fun t494 => ((offcutref02_Less.f k t493 t494).bind fun t495 => (if t495 = true then (offcutlaw02_WholeOrder.j1 k t493 t494 (-1) 0 x489000 x489001 x490000 x490001) else (offcutlaw02_WholeOrder.j1 k t493 t494 0 0 x489000 x489001 x490000 x490001)))))
def offcutlaw02_WholeOrder.j1 : Nat → ByteArray → ByteArray → Int → Int → Bool → List Int → Bool → List Int → Option (Bool)
  | 0, _, _, _, _, _, _, _, _ => none
  | k + 1, x5, x6, x7, x8, x489000, x489001, x490000, x490001 => (offcutref02_Less.f k x6 x5).bind fun t496 => (if t496 = true then (offcutlaw02_WholeOrder.j2 k x5 1 x8 x489000 x489001 x490000 x490001) else (offcutlaw02_WholeOrder.j2 k x5 x7 x8 x489000 x489001 x490000 x490001))
def offcutlaw02_WholeOrder.j2 : Nat → ByteArray → Int → Int → Bool → List Int → Bool → List Int → Option (Bool)
  | 0, _, _, _, _, _, _, _ => none
  | k + 1, x5, x7, x8, x489000, x489001, x490000, x490001 => if x5.toList = ([48] : List UInt8) then (offcutlaw02_WholeOrder.j3 k x5 x7 x8 x489000 x489001 x490000 x490001) else (offcutlaw02_WholeOrder.j3 k x5 x7 1 x489000 x489001 x490000 x490001)
def offcutlaw02_WholeOrder.j3 : Nat → ByteArray → Int → Int → Bool → List Int → Bool → List Int → Option (Bool)
  | 0, _, _, _, _, _, _, _ => none
  | k + 1, x5, x7, x8, x489000, x489001, x490000, x490001 => (offcutref02_Below.f x5).bind fun t497 => (if t497 = true then (offcutlaw02_WholeOrder.j4 k x5 x7 (-1) x489000 x489001 x490000 x490001) else (offcutlaw02_WholeOrder.j4 k x5 x7 x8 x489000 x489001 x490000 x490001))
def offcutlaw02_WholeOrder.j4 : Nat → ByteArray → Int → Int → Bool → List Int → Bool → List Int → Option (Bool)
  | 0, _, _, _, _, _, _, _ => none
  | k + 1, x5, x7, x8, x489000, x489001, x490000, x490001 => if (x489001.length : Int) = 0 then (if x489000 = true then (if (x489001.length : Int) > 0 then (if 0 ≤ (wrap64 ((x489001.length : Int) - 1)) then (if (wrap64 ((x489001.length : Int) - 1)) < (x489001.length : Int) then (offcutlaw02_WholeOrder.j5 k x5 x7 x8 ((rd x489001 (wrap64 ((x489001.length : Int) - 1))) != 0) x489000 x489001 x490000 x490001) else (none)) else (none)) else (offcutlaw02_WholeOrder.j5 k x5 x7 x8 false x489000 x489001 x490000 x490001)) else (offcutlaw02_WholeOrder.j5 k x5 x7 x8 true x489000 x489001 x490000 x490001)) else (if (x489001.length : Int) > 0 then (if 0 ≤ (wrap64 ((x489001.length : Int) - 1)) then (if (wrap64 ((x489001.length : Int) - 1)) < (x489001.length : Int) then (offcutlaw02_WholeOrder.j5 k x5 x7 x8 ((rd x489001 (wrap64 ((x489001.length : Int) - 1))) != 0) x489000 x489001 x490000 x490001) else (none)) else (none)) else (offcutlaw02_WholeOrder.j5 k x5 x7 x8 false x489000 x489001 x490000 x490001))
def offcutlaw02_WholeOrder.j5 : Nat → ByteArray → Int → Int → Bool → Bool → List Int → Bool → List Int → Option (Bool)
  | 0, _, _, _, _, _, _, _, _ => none
  | k + 1, x5, x7, x8, x9, x489000, x489001, x490000, x490001 => (whole_Compare.f k x489000 x489001 x490000 x490001).bind fun t500 => (if t500 = x7 then ((whole_Sign.f k x489000 x489001).bind fun t501 => (if t501 = x8 then ((whole_Right.f x489000 x489001).bind fun t502 => (if (t502 == x9) = true then ((whole_Make.f k x489000 x489001).bind fun bt503 => ((offcutlaw02_is.f k bt503.1 bt503.2 x5).bind fun t507 => (if t507 = true then ((offcutlaw02_awake.f k).bind fun t508 => (some t508)) else (some false)))) else (some false))) else (some false))) else (some false))
end
def offcutlaw02_WholeOrder.f (k : Nat) (a0_0 : Bool) (l0_1 : List Int) (a1_0 : Bool) (l1_1 : List Int) : Option (Bool) := (offcutlaw02_few.f a0_0 l0_1).bind fun t490 => (if t490 = true then ((offcutlaw02_few.f a1_0 l1_1).bind fun t491 => (offcutlaw02_WholeOrder.j0 k (!t491) a0_0 l0_1 a1_0 l1_1)) else (offcutlaw02_WholeOrder.j0 k true a0_0 l0_1 a1_0 l1_1))
theorem offcutlaw02_WholeOrder.mono_l : ∀ k, (∀ y0 y1 y2 y3 y4, LeO (offcutlaw02_WholeOrder.j0 k y0 y1 y2 y3 y4) (offcutlaw02_WholeOrder.j0 (k + 1) y0 y1 y2 y3 y4)) ∧ (∀ y0 y1 y2 y3 y4 y5 y6 y7, LeO (offcutlaw02_WholeOrder.j1 k y0 y1 y2 y3 y4 y5 y6 y7) (offcutlaw02_WholeOrder.j1 (k + 1) y0 y1 y2 y3 y4 y5 y6 y7)) ∧ (∀ y0 y1 y2 y3 y4 y5 y6, LeO (offcutlaw02_WholeOrder.j2 k y0 y1 y2 y3 y4 y5 y6) (offcutlaw02_WholeOrder.j2 (k + 1) y0 y1 y2 y3 y4 y5 y6)) ∧ (∀ y0 y1 y2 y3 y4 y5 y6, LeO (offcutlaw02_WholeOrder.j3 k y0 y1 y2 y3 y4 y5 y6) (offcutlaw02_WholeOrder.j3 (k + 1) y0 y1 y2 y3 y4 y5 y6)) ∧ (∀ y0 y1 y2 y3 y4 y5 y6, LeO (offcutlaw02_WholeOrder.j4 k y0 y1 y2 y3 y4 y5 y6) (offcutlaw02_WholeOrder.j4 (k + 1) y0 y1 y2 y3 y4 y5 y6)) ∧ (∀ y0 y1 y2 y3 y4 y5 y6 y7, LeO (offcutlaw02_WholeOrder.j5 k y0 y1 y2 y3 y4 y5 y6 y7) (offcutlaw02_WholeOrder.j5 (k + 1) y0 y1 y2 y3 y4 y5 y6 y7))
  | 0 => ⟨fun _ _ _ _ _ r h => by simp [offcutlaw02_WholeOrder.j0] at h, fun _ _ _ _ _ _ _ _ r h => by simp [offcutlaw02_WholeOrder.j1] at h, fun _ _ _ _ _ _ _ r h => by simp [offcutlaw02_WholeOrder.j2] at h, fun _ _ _ _ _ _ _ r h => by simp [offcutlaw02_WholeOrder.j3] at h, fun _ _ _ _ _ _ _ r h => by simp [offcutlaw02_WholeOrder.j4] at h, fun _ _ _ _ _ _ _ _ r h => by simp [offcutlaw02_WholeOrder.j5] at h⟩
  | k + 1 => by
    obtain ⟨ih0, ih1, ih2, ih3, ih4, ih5⟩ := offcutlaw02_WholeOrder.mono_l k
    refine ⟨?_, ?_, ?_, ?_, ?_, ?_⟩
    · intro y0 y1 y2 y3 y4
      unfold offcutlaw02_WholeOrder.j0
      repeat' first
      | (with_reducible exact ih0 _ _ _ _ _)
      | (with_reducible exact ih1 _ _ _ _ _ _ _ _)
      | (with_reducible exact ih2 _ _ _ _ _ _ _)
      | (with_reducible exact ih3 _ _ _ _ _ _ _)
      | (with_reducible exact ih4 _ _ _ _ _ _ _)
      | (with_reducible exact ih5 _ _ _ _ _ _ _ _)
      | (with_reducible exact offcutlaw02_awake.mono _)
      | (with_reducible exact offcutlaw02_is.mono _ _ _ _)
      | (with_reducible exact offcutlaw02_of.mono _ _ _)
      | (with_reducible exact offcutref02_Less.mono _ _ _)
      | (with_reducible exact whole_Compare.mono _ _ _ _ _)
      | (with_reducible exact whole_Make.mono _ _ _)
      | (with_reducible exact whole_Sign.mono _ _ _)
      | (with_reducible exact LeO.refl _)
      | (with_reducible exact LeO.none _)
      | (with_reducible refine LeO.ite ?_ ?_)
      | (with_reducible refine LeO.bind ?_ (fun _ => ?_))
      | exact ih0 _ _ _ _ _
      | exact ih1 _ _ _ _ _ _ _ _
      | exact ih2 _ _ _ _ _ _ _
      | exact ih3 _ _ _ _ _ _ _
      | exact ih4 _ _ _ _ _ _ _
      | exact ih5 _ _ _ _ _ _ _ _
      | exact offcutlaw02_awake.mono _
      | exact offcutlaw02_is.mono _ _ _ _
      | exact offcutlaw02_of.mono _ _ _
      | exact offcutref02_Less.mono _ _ _
      | exact whole_Compare.mono _ _ _ _ _
      | exact whole_Make.mono _ _ _
      | exact whole_Sign.mono _ _ _
      | exact LeO.none _
      | refine LeO.ite ?_ ?_
      | refine LeO.bind ?_ (fun _ => ?_)
    · intro y0 y1 y2 y3 y4 y5 y6 y7
      unfold offcutlaw02_WholeOrder.j1
      repeat' first
      | (with_reducible exact ih0 _ _ _ _ _)
      | (with_reducible exact ih1 _ _ _ _ _ _ _ _)
      | (with_reducible exact ih2 _ _ _ _ _ _ _)
      | (with_reducible exact ih3 _ _ _ _ _ _ _)
      | (with_reducible exact ih4 _ _ _ _ _ _ _)
      | (with_reducible exact ih5 _ _ _ _ _ _ _ _)
      | (with_reducible exact offcutlaw02_awake.mono _)
      | (with_reducible exact offcutlaw02_is.mono _ _ _ _)
      | (with_reducible exact offcutlaw02_of.mono _ _ _)
      | (with_reducible exact offcutref02_Less.mono _ _ _)
      | (with_reducible exact whole_Compare.mono _ _ _ _ _)
      | (with_reducible exact whole_Make.mono _ _ _)
      | (with_reducible exact whole_Sign.mono _ _ _)
      | (with_reducible exact LeO.refl _)
      | (with_reducible exact LeO.none _)
      | (with_reducible refine LeO.ite ?_ ?_)
      | (with_reducible refine LeO.bind ?_ (fun _ => ?_))
      | exact ih0 _ _ _ _ _
      | exact ih1 _ _ _ _ _ _ _ _
      | exact ih2 _ _ _ _ _ _ _
      | exact ih3 _ _ _ _ _ _ _
      | exact ih4 _ _ _ _ _ _ _
      | exact ih5 _ _ _ _ _ _ _ _
      | exact offcutlaw02_awake.mono _
      | exact offcutlaw02_is.mono _ _ _ _
      | exact offcutlaw02_of.mono _ _ _
      | exact offcutref02_Less.mono _ _ _
      | exact whole_Compare.mono _ _ _ _ _
      | exact whole_Make.mono _ _ _
      | exact whole_Sign.mono _ _ _
      | exact LeO.none _
      | refine LeO.ite ?_ ?_
      | refine LeO.bind ?_ (fun _ => ?_)
    · intro y0 y1 y2 y3 y4 y5 y6
      unfold offcutlaw02_WholeOrder.j2
      repeat' first
      | (with_reducible exact ih0 _ _ _ _ _)
      | (with_reducible exact ih1 _ _ _ _ _ _ _ _)
      | (with_reducible exact ih2 _ _ _ _ _ _ _)
      | (with_reducible exact ih3 _ _ _ _ _ _ _)
      | (with_reducible exact ih4 _ _ _ _ _ _ _)
      | (with_reducible exact ih5 _ _ _ _ _ _ _ _)
      | (with_reducible exact offcutlaw02_awake.mono _)
      | (with_reducible exact offcutlaw02_is.mono _ _ _ _)
      | (with_reducible exact offcutlaw02_of.mono _ _ _)
      | (with_reducible exact offcutref02_Less.mono _ _ _)
      | (with_reducible exact whole_Compare.mono _ _ _ _ _)
      | (with_reducible exact whole_Make.mono _ _ _)
      | (with_reducible exact whole_Sign.mono _ _ _)
      | (with_reducible exact LeO.refl _)
      | (with_reducible exact LeO.none _)
      | (with_reducible refine LeO.ite ?_ ?_)
      | (with_reducible refine LeO.bind ?_ (fun _ => ?_))
      | exact ih0 _ _ _ _ _
      | exact ih1 _ _ _ _ _ _ _ _
      | exact ih2 _ _ _ _ _ _ _
      | exact ih3 _ _ _ _ _ _ _
      | exact ih4 _ _ _ _ _ _ _
      | exact ih5 _ _ _ _ _ _ _ _
      | exact offcutlaw02_awake.mono _
      | exact offcutlaw02_is.mono _ _ _ _
      | exact offcutlaw02_of.mono _ _ _
      | exact offcutref02_Less.mono _ _ _
      | exact whole_Compare.mono _ _ _ _ _
      | exact whole_Make.mono _ _ _
      | exact whole_Sign.mono _ _ _
      | exact LeO.none _
      | refine LeO.ite ?_ ?_
      | refine LeO.bind ?_ (fun _ => ?_)
    · intro y0 y1 y2 y3 y4 y5 y6
      unfold offcutlaw02_WholeOrder.j3
      repeat' first
      | (with_reducible exact ih0 _ _ _ _ _)
      | (with_reducible exact ih1 _ _ _ _ _ _ _ _)
      | (with_reducible exact ih2 _ _ _ _ _ _ _)
      | (with_reducible exact ih3 _ _ _ _ _ _ _)
      | (with_reducible exact ih4 _ _ _ _ _ _ _)
      | (with_reducible exact ih5 _ _ _ _ _ _ _ _)
      | (with_reducible exact offcutlaw02_awake.mono _)
      | (with_reducible exact offcutlaw02_is.mono _ _ _ _)
      | (with_reducible exact offcutlaw02_of.mono _ _ _)
      | (with_reducible exact offcutref02_Less.mono _ _ _)
      | (with_reducible exact whole_Compare.mono _ _ _ _ _)
      | (with_reducible exact whole_Make.mono _ _ _)
      | (with_reducible exact whole_Sign.mono _ _ _)
      | (with_reducible exact LeO.refl _)
      | (with_reducible exact LeO.none _)
      | (with_reducible refine LeO.ite ?_ ?_)
      | (with_reducible refine LeO.bind ?_ (fun _ => ?_))
      | exact ih0 _ _ _ _ _
      | exact ih1 _ _ _ _ _ _ _ _
      | exact ih2 _ _ _ _ _ _ _
      | exact ih3 _ _ _ _ _ _ _
      | exact ih4 _ _ _ _ _ _ _
      | exact ih5 _ _ _ _ _ _ _ _
      | exact offcutlaw02_awake.mono _
      | exact offcutlaw02_is.mono _ _ _ _
      | exact offcutlaw02_of.mono _ _ _
      | exact offcutref02_Less.mono _ _ _
      | exact whole_Compare.mono _ _ _ _ _
      | exact whole_Make.mono _ _ _
      | exact whole_Sign.mono _ _ _
      | exact LeO.none _
      | refine LeO.ite ?_ ?_
      | refine LeO.bind ?_ (fun _ => ?_)
    · intro y0 y1 y2 y3 y4 y5 y6
      unfold offcutlaw02_WholeOrder.j4
      repeat' first
      | (with_reducible exact ih0 _ _ _ _ _)
      | (with_reducible exact ih1 _ _ _ _ _ _ _ _)
      | (with_reducible exact ih2 _ _ _ _ _ _ _)
      | (with_reducible exact ih3 _ _ _ _ _ _ _)
      | (with_reducible exact ih4 _ _ _ _ _ _ _)
      | (with_reducible exact ih5 _ _ _ _ _ _ _ _)
      | (with_reducible exact offcutlaw02_awake.mono _)
      | (with_reducible exact offcutlaw02_is.mono _ _ _ _)
      | (with_reducible exact offcutlaw02_of.mono _ _ _)
      | (with_reducible exact offcutref02_Less.mono _ _ _)
      | (with_reducible exact whole_Compare.mono _ _ _ _ _)
      | (with_reducible exact whole_Make.mono _ _ _)
      | (with_reducible exact whole_Sign.mono _ _ _)
      | (with_reducible exact LeO.refl _)
      | (with_reducible exact LeO.none _)
      | (with_reducible refine LeO.ite ?_ ?_)
      | (with_reducible refine LeO.bind ?_ (fun _ => ?_))
      | exact ih0 _ _ _ _ _
      | exact ih1 _ _ _ _ _ _ _ _
      | exact ih2 _ _ _ _ _ _ _
      | exact ih3 _ _ _ _ _ _ _
      | exact ih4 _ _ _ _ _ _ _
      | exact ih5 _ _ _ _ _ _ _ _
      | exact offcutlaw02_awake.mono _
      | exact offcutlaw02_is.mono _ _ _ _
      | exact offcutlaw02_of.mono _ _ _
      | exact offcutref02_Less.mono _ _ _
      | exact whole_Compare.mono _ _ _ _ _
      | exact whole_Make.mono _ _ _
      | exact whole_Sign.mono _ _ _
      | exact LeO.none _
      | refine LeO.ite ?_ ?_
      | refine LeO.bind ?_ (fun _ => ?_)
    · intro y0 y1 y2 y3 y4 y5 y6 y7
      unfold offcutlaw02_WholeOrder.j5
      repeat' first
      | (with_reducible exact ih0 _ _ _ _ _)
      | (with_reducible exact ih1 _ _ _ _ _ _ _ _)
      | (with_reducible exact ih2 _ _ _ _ _ _ _)
      | (with_reducible exact ih3 _ _ _ _ _ _ _)
      | (with_reducible exact ih4 _ _ _ _ _ _ _)
      | (with_reducible exact ih5 _ _ _ _ _ _ _ _)
      | (with_reducible exact offcutlaw02_awake.mono _)
      | (with_reducible exact offcutlaw02_is.mono _ _ _ _)
      | (with_reducible exact offcutlaw02_of.mono _ _ _)
      | (with_reducible exact offcutref02_Less.mono _ _ _)
      | (with_reducible exact whole_Compare.mono _ _ _ _ _)
      | (with_reducible exact whole_Make.mono _ _ _)
      | (with_reducible exact whole_Sign.mono _ _ _)
      | (with_reducible exact LeO.refl _)
      | (with_reducible exact LeO.none _)
      | (with_reducible refine LeO.ite ?_ ?_)
      | (with_reducible refine LeO.bind ?_ (fun _ => ?_))
      | exact ih0 _ _ _ _ _
      | exact ih1 _ _ _ _ _ _ _ _
      | exact ih2 _ _ _ _ _ _ _
      | exact ih3 _ _ _ _ _ _ _
      | exact ih4 _ _ _ _ _ _ _
      | exact ih5 _ _ _ _ _ _ _ _
      | exact offcutlaw02_awake.mono _
      | exact offcutlaw02_is.mono _ _ _ _
      | exact offcutlaw02_of.mono _ _ _
      | exact offcutref02_Less.mono _ _ _
      | exact whole_Compare.mono _ _ _ _ _
      | exact whole_Make.mono _ _ _
      | exact whole_Sign.mono _ _ _
      | exact LeO.none _
      | refine LeO.ite ?_ ?_
      | refine LeO.bind ?_ (fun _ => ?_)
theorem offcutlaw02_WholeOrder.mono : ∀ a0 a1 a2 a3 k, LeO (offcutlaw02_WholeOrder.f k a0 a1 a2 a3) (offcutlaw02_WholeOrder.f (k + 1) a0 a1 a2 a3) := by
  intro a0 a1 a2 a3 k
  obtain ⟨ih0, ih1, ih2, ih3, ih4, ih5⟩ := offcutlaw02_WholeOrder.mono_l k
  unfold offcutlaw02_WholeOrder.f
  repeat' first
      | (with_reducible exact ih0 _ _ _ _ _)
      | (with_reducible exact ih1 _ _ _ _ _ _ _ _)
      | (with_reducible exact ih2 _ _ _ _ _ _ _)
      | (with_reducible exact ih3 _ _ _ _ _ _ _)
      | (with_reducible exact ih4 _ _ _ _ _ _ _)
      | (with_reducible exact ih5 _ _ _ _ _ _ _ _)
      | (with_reducible exact offcutlaw02_awake.mono _)
      | (with_reducible exact offcutlaw02_is.mono _ _ _ _)
      | (with_reducible exact offcutlaw02_of.mono _ _ _)
      | (with_reducible exact offcutref02_Less.mono _ _ _)
      | (with_reducible exact whole_Compare.mono _ _ _ _ _)
      | (with_reducible exact whole_Make.mono _ _ _)
      | (with_reducible exact whole_Sign.mono _ _ _)
      | (with_reducible exact LeO.refl _)
      | (with_reducible exact LeO.none _)
      | (with_reducible refine LeO.ite ?_ ?_)
      | (with_reducible refine LeO.bind ?_ (fun _ => ?_))
      | exact ih0 _ _ _ _ _
      | exact ih1 _ _ _ _ _ _ _ _
      | exact ih2 _ _ _ _ _ _ _
      | exact ih3 _ _ _ _ _ _ _
      | exact ih4 _ _ _ _ _ _ _
      | exact ih5 _ _ _ _ _ _ _ _
      | exact offcutlaw02_awake.mono _
      | exact offcutlaw02_is.mono _ _ _ _
      | exact offcutlaw02_of.mono _ _ _
      | exact offcutref02_Less.mono _ _ _
      | exact whole_Compare.mono _ _ _ _ _
      | exact whole_Make.mono _ _ _
      | exact whole_Sign.mono _ _ _
      | exact LeO.none _
      | refine LeO.ite ?_ ?_
      | refine LeO.bind ?_ (fun _ => ?_)
set_option maxHeartbeats 8000000 in
set_option maxRecDepth 100000 in
theorem offcutlaw02_WholeOrder.calls (k : Nat) (a0_0 : Bool) (A0_1 : Option Addr) (c0_1 : Nat) (l0_1 : List Int) (a1_0 : Bool) (A1_1 : Option Addr) (c1_1 : Nat) (l1_1 : List Int) (r : Bool) (w : World) (hr0_1 : Kd.C (Kd.int .u32) w A0_1 l0_1.length l0_1) (hc0_1 : l0_1.length ≤ c0_1) (hr1_1 : Kd.C (Kd.int .u32) w A1_1 l1_1.length l1_1) (hc1_1 : l1_1.length ≤ c1_1) (hrt : r = true) (h : offcutlaw02_WholeOrder.f k a0_0 l0_1 a1_0 l1_1 = some r) :
    Calls Try.prog 4 #[.agg #[.bool a0_0, .slice A0_1 l0_1.length c0_1], .agg #[.bool a1_0, .slice A1_1 l1_1.length c1_1]] w fun e w' => e = .returned (.bool r) ∧ Below w.heap.size w w' := by
  have hu25 := Try.underlying25
  have HRT := Aside0.mk hrt
  clear hrt
  have HR0_1 := Aside0.mk hr0_1
  have HC0_1 := Aside0.mk hc0_1
  clear hr0_1 hc0_1
  have HR1_1 := Aside0.mk hr1_1
  have HC1_1 := Aside0.mk hc1_1
  clear hr1_1 hc1_1
  have HB := Aside0.mk (Below.refl w.heap.size w)
  have H : ((offcutlaw02_few.f a0_0 l0_1).bind fun t490 => (if t490 = true then ((offcutlaw02_few.f a1_0 l1_1).bind fun t491 => (offcutlaw02_WholeOrder.j0 k (!t491) a0_0 l0_1 a1_0 l1_1)) else (offcutlaw02_WholeOrder.j0 k true a0_0 l0_1 a1_0 l1_1))) = some r := h
  clear h
  have HC3 := Aside0.mk H
  clear H
  go_enter Try.func4, Try.ntmps4
  go_upto_region 1 with (first | ((with_reducible refine gate_dst (N := 2) rfl ?_); (try (refine gate_guard (by rfl) ?_; dsimp only)); refine box_event ?hg (N := 2) ?hd (cs := #[.bool a0_0, .slice A0_1 l0_1.length c0_1]) (t := 25) ?hr ?_; (case hd => rfl); (case hg => rfl); (case hr => first | (go_simp; done) | (go_simp; rfl)); intro gb488 hg w4 hbox hb; have n0_ := Aside0.mk (below_step (by repeat (first | (with_reducible first | exact HB.out | apply below_alloc | apply pw_below_drewN | apply below_drew1) | exact HB.out)) hb); have n1_ := Aside0.mk (hbox); have n2_ := Aside0.mk ((by rw [hg]; exact (below_size (by repeat (first | (with_reducible first | exact HB.out | apply below_alloc | apply pw_below_drewN | apply below_drew1) | exact HB.out))) : w.heap.size ≤ gb488)); have n3_ := Aside0.mk ((by rw [hg]; exact (below_size (by repeat (first | (with_reducible first | exact HB.out | apply below_alloc | apply pw_below_drewN | apply below_drew1) | exact HB.out))) : w.heap.size ≤ gb488)); clear HB; have HB := n0_; have BK488 := n1_; have GW488 := n2_; have GE488 := n3_; clear n0_ n1_ n2_ n3_; clear hb hbox hg) | ((with_reducible refine gate_dst (N := 3) rfl ?_); (try (refine gate_guard (by rfl) ?_; dsimp only)); refine box_event ?hg (N := 3) ?hd (cs := #[.bool a1_0, .slice A1_1 l1_1.length c1_1]) (t := 25) ?hr ?_; (case hd => rfl); (case hg => rfl); (case hr => first | (go_simp; done) | (go_simp; rfl)); intro gb489 hg w5 hbox hb; have n0_ := Aside0.mk (blk_below (g := gb488) (o := .cells #[.bool a0_0, .slice A0_1 l0_1.length c0_1] 25 (0, 0)) (by (with_reducible repeat (first | refine blk_drewN ?_ _ | refine blk_drew ?_ | refine blk_alloc ?_ _)); exact BK488.out) hb); have n1_ := Aside0.mk (below_step (by repeat (first | (with_reducible first | exact HB.out | apply below_alloc | apply pw_below_drewN | apply below_drew1 | refine below_set ?_ GE488.out) | exact HB.out)) hb); have n2_ := Aside0.mk (hbox); have n3_ := Aside0.mk ((by rw [hg]; exact (below_size (by repeat (first | (with_reducible first | exact HB.out | apply below_alloc | apply pw_below_drewN | apply below_drew1 | refine below_set ?_ GE488.out) | exact HB.out))) : w.heap.size ≤ gb489)); have n4_ := Aside0.mk ((by rw [hg]; exact (below_size (by repeat (first | (with_reducible first | exact HB.out | apply below_alloc | apply pw_below_drewN | apply below_drew1 | refine below_set ?_ GE488.out) | exact HB.out))) : w.heap.size ≤ gb489)); have n5_ := Aside0.mk ((by rw [hg]; exact Nat.ne_of_lt (blk_lt (g := gb488) (o := .cells #[.bool a0_0, .slice A0_1 l0_1.length c0_1] 25 (0, 0)) (by (with_reducible repeat (first | refine blk_drewN ?_ _ | refine blk_drew ?_ | refine blk_alloc ?_ _)); exact BK488.out)) : gb488 ≠ gb489)); have n6_ := Aside0.mk ((by rw [hg]; exact Nat.ne_of_gt (blk_lt (g := gb488) (o := .cells #[.bool a0_0, .slice A0_1 l0_1.length c0_1] 25 (0, 0)) (by (with_reducible repeat (first | refine blk_drewN ?_ _ | refine blk_drew ?_ | refine blk_alloc ?_ _)); exact BK488.out)) : gb489 ≠ gb488)); clear BK488; clear HB; have BK488 := n0_; have HB := n1_; have BK489 := n2_; have GW489 := n3_; have GE489 := n4_; have NB488_489 := n5_; have NB489_488 := n6_; clear n0_ n1_ n2_ n3_ n4_ n5_ n6_; clear hb hbox hg))
  (try simp only [Act.put, List.setIfInBounds_toArray, List.set_cons_zero, List.set_cons_succ])
  go_cut [17] (fun v17 wc => ∃ (kq : Nat) (x17_2 : Bool), v17 = .bool x17_2 ∧ Aside0 (offcutlaw02_WholeOrder.j0 kq x17_2 a0_0 l0_1 a1_0 l1_1 = some r) ∧ Aside0 (kq ≤ k) ∧ Aside0 (wc.heap[gb488]? = some (.cells #[.bool a0_0, (.slice A0_1 l0_1.length c0_1)] 25 (0, 0))) ∧ Aside0 (wc.heap[gb489]? = some (.cells #[.bool a1_0, (.slice A1_1 l1_1.length c1_1)] 25 (0, 0))) ∧ Aside0 (Below w.heap.size w wc))
  case first =>
    have H := HC3.out
    clear HC3
    replace H := Option.bind_eq_some_iff.mp H
    obtain ⟨t490, A60, H⟩ := H
    replace H : (if t490 = true then ((offcutlaw02_few.f a1_0 l1_1).bind fun t491 => (offcutlaw02_WholeOrder.j0 k (!t491) a0_0 l0_1 a1_0 l1_1)) else (offcutlaw02_WholeOrder.j0 k true a0_0 l0_1 a1_0 l1_1)) = some r := H
    have A6 := Aside0.mk A60
    clear A60
    by_cases c7 : t490 = true
    · subst c7
      have H1 : ((offcutlaw02_few.f a1_0 l1_1).bind fun t491 => (offcutlaw02_WholeOrder.j0 k (!t491) a0_0 l0_1 a1_0 l1_1)) = some r := by rw [if_pos rfl] at H; exact H
      clear H
      have H := H1
      clear H1
      replace H := Option.bind_eq_some_iff.mp H
      obtain ⟨t491, A80, H⟩ := H
      replace H : (offcutlaw02_WholeOrder.j0 k (!t491) a0_0 l0_1 a1_0 l1_1) = some r := H
      have A8 := Aside0.mk A80
      clear A80
      have H' := Aside0.mk H
      clear H
      have hnb9 := NB488_489.out
      have hnc9 := NB489_488.out
      have hcz10_0 : w5.cell? ⟨gb488, 0, none⟩ = some (.bool a0_0) := (blk_cell BK488.out 0).trans rfl
      have hcz10_1 : w5.cell? ⟨gb488, 1, none⟩ = some (.slice A0_1 l0_1.length c0_1) := (blk_cell BK488.out 1).trans rfl
      have hfz10_0 := blk_frozen BK488.out 0
      have hfz10_1 := blk_frozen BK488.out 1
      go_wp2_with (first | ((with_reducible refine gate_callee (f := 17) rfl ?_); refine goesL_ (some 11) rfl rfl Try.func17 (by kernel_rfl) rfl #[.agg #[.bool a0_0, .slice A0_1 l0_1.length c0_1]] rfl (by (try simp only [List.map_toArray, List.map_cons, List.map_nil]); first | done | rfl | (simp only [List.length_drop, List.length_take]; rfl)) ?_; (with_reducible refine (offcutlaw02_few.calls a0_0 _ _ l0_1 true _ ?side1 ?side2 A6.out).mono ?_); (case side1 => repeat (first | exact (Kd.C_below HR0_1.out HB.out) | (with_reducible refine Kd.C_alloc ?_ _) | (with_reducible refine Kd.C_drewN ?_ _) | (with_reducible refine Kd.C_drew ?_))); (case side2 => exact HC0_1.out); rintro e w11 ⟨rfl, hb⟩; refine ⟨_, rfl, ?_⟩; have n0_ := Aside0.mk (blk_below (g := gb488) (o := .cells #[.bool a0_0, .slice A0_1 l0_1.length c0_1] 25 (0, 0)) (by (with_reducible repeat (first | refine blk_drewN ?_ _ | refine blk_drew ?_ | refine blk_alloc ?_ _)); exact BK488.out) hb); have n1_ := Aside0.mk (blk_below (g := gb489) (o := .cells #[.bool a1_0, .slice A1_1 l1_1.length c1_1] 25 (0, 0)) (by (with_reducible repeat (first | refine blk_drewN ?_ _ | refine blk_drew ?_ | refine blk_alloc ?_ _)); exact BK489.out) hb); have n2_ := Aside0.mk (below_step (by repeat (first | (with_reducible first | exact HB.out | apply below_alloc | apply pw_below_drewN | apply below_drew1 | refine below_set ?_ GE488.out | refine below_set ?_ GE489.out) | exact HB.out)) hb); clear BK488; clear BK489; clear HB; have BK488 := n0_; have BK489 := n1_; have HB := n2_; clear n0_ n1_ n2_; (try clear hb); have hcz12_0 : w11.cell? ⟨gb489, 0, none⟩ = some (.bool a1_0) := (blk_cell BK489.out 0).trans rfl; have hcz12_1 : w11.cell? ⟨gb489, 1, none⟩ = some (.slice A1_1 l1_1.length c1_1) := (blk_cell BK489.out 1).trans rfl; have hfz12_0 := blk_frozen BK489.out 0; have hfz12_1 := blk_frozen BK489.out 1) | (go_at_call 17; (with_reducible refine (offcutlaw02_few.calls a1_0 _ _ l1_1 t491 _ ?side1 ?side2 A8.out).mono ?_); (case side1 => repeat (first | exact (Kd.C_below HR1_1.out HB.out) | (with_reducible refine Kd.C_alloc ?_ _) | (with_reducible refine Kd.C_drewN ?_ _) | (with_reducible refine Kd.C_drew ?_))); (case side2 => exact HC1_1.out); rintro e w13 ⟨rfl, hb⟩; have n0_ := Aside0.mk (blk_below (g := gb488) (o := .cells #[.bool a0_0, .slice A0_1 l0_1.length c0_1] 25 (0, 0)) (by (with_reducible repeat (first | refine blk_drewN ?_ _ | refine blk_drew ?_ | refine blk_alloc ?_ _)); exact BK488.out) hb); have n1_ := Aside0.mk (blk_below (g := gb489) (o := .cells #[.bool a1_0, .slice A1_1 l1_1.length c1_1] 25 (0, 0)) (by (with_reducible repeat (first | refine blk_drewN ?_ _ | refine blk_drew ?_ | refine blk_alloc ?_ _)); exact BK489.out) hb); have n2_ := Aside0.mk (below_step (by repeat (first | (with_reducible first | exact HB.out | apply below_alloc | apply pw_below_drewN | apply below_drew1 | refine below_set ?_ GE488.out | refine below_set ?_ GE489.out) | exact HB.out)) hb); clear BK488; clear BK489; clear HB; have BK488 := n0_; have BK489 := n1_; have HB := n2_; clear n0_ n1_ n2_; (try clear hb)))
      go_meet
      case rel => exact ⟨_, (!t491), (by first | rfl | (simp; done) | (simp [*]; done)), H', ⟨by first | omega | exact Nat.le_refl _⟩, ⟨by (with_reducible repeat (first | refine blk_drewN ?_ _ | refine blk_drew ?_ | refine blk_alloc ?_ _)); exact BK488.out⟩, ⟨by (with_reducible repeat (first | refine blk_drewN ?_ _ | refine blk_drew ?_ | refine blk_alloc ?_ _)); exact BK489.out⟩, ⟨by repeat (first | (with_reducible first | exact HB.out | apply below_alloc | apply pw_below_drewN | apply below_drew1 | refine below_set ?_ GE488.out | refine below_set ?_ GE489.out) | exact HB.out)⟩⟩
    · replace c7 := Bool.eq_false_iff.mpr c7
      subst c7
      have H1 : (offcutlaw02_WholeOrder.j0 k true a0_0 l0_1 a1_0 l1_1) = some r := by rw [if_neg (show ¬ (false = true) by decide)] at H; exact H
      clear H
      have H := H1
      clear H1
      have H' := Aside0.mk H
      clear H
      have hnb14 := NB488_489.out
      have hnc14 := NB489_488.out
      have hcz15_0 : w5.cell? ⟨gb488, 0, none⟩ = some (.bool a0_0) := (blk_cell BK488.out 0).trans rfl
      have hcz15_1 : w5.cell? ⟨gb488, 1, none⟩ = some (.slice A0_1 l0_1.length c0_1) := (blk_cell BK488.out 1).trans rfl
      have hfz15_0 := blk_frozen BK488.out 0
      have hfz15_1 := blk_frozen BK488.out 1
      go_wp2_with (first | ((with_reducible refine gate_callee (f := 17) rfl ?_); refine goesL_ (some 11) rfl rfl Try.func17 (by kernel_rfl) rfl #[.agg #[.bool a0_0, .slice A0_1 l0_1.length c0_1]] rfl (by (try simp only [List.map_toArray, List.map_cons, List.map_nil]); first | done | rfl | (simp only [List.length_drop, List.length_take]; rfl)) ?_; (with_reducible refine (offcutlaw02_few.calls a0_0 _ _ l0_1 false _ ?side1 ?side2 A6.out).mono ?_); (case side1 => repeat (first | exact (Kd.C_below HR0_1.out HB.out) | (with_reducible refine Kd.C_alloc ?_ _) | (with_reducible refine Kd.C_drewN ?_ _) | (with_reducible refine Kd.C_drew ?_))); (case side2 => exact HC0_1.out); rintro e w16 ⟨rfl, hb⟩; refine ⟨_, rfl, ?_⟩; have n0_ := Aside0.mk (blk_below (g := gb488) (o := .cells #[.bool a0_0, .slice A0_1 l0_1.length c0_1] 25 (0, 0)) (by (with_reducible repeat (first | refine blk_drewN ?_ _ | refine blk_drew ?_ | refine blk_alloc ?_ _)); exact BK488.out) hb); have n1_ := Aside0.mk (blk_below (g := gb489) (o := .cells #[.bool a1_0, .slice A1_1 l1_1.length c1_1] 25 (0, 0)) (by (with_reducible repeat (first | refine blk_drewN ?_ _ | refine blk_drew ?_ | refine blk_alloc ?_ _)); exact BK489.out) hb); have n2_ := Aside0.mk (below_step (by repeat (first | (with_reducible first | exact HB.out | apply below_alloc | apply pw_below_drewN | apply below_drew1 | refine below_set ?_ GE488.out | refine below_set ?_ GE489.out) | exact HB.out)) hb); clear BK488; clear BK489; clear HB; have BK488 := n0_; have BK489 := n1_; have HB := n2_; clear n0_ n1_ n2_; (try clear hb)))
      go_meet
      case rel => exact ⟨_, (true), (by first | rfl | (simp; done) | (simp [*]; done)), H', ⟨by first | omega | exact Nat.le_refl _⟩, ⟨by (with_reducible repeat (first | refine blk_drewN ?_ _ | refine blk_drew ?_ | refine blk_alloc ?_ _)); exact BK488.out⟩, ⟨by (with_reducible repeat (first | refine blk_drewN ?_ _ | refine blk_drew ?_ | refine blk_alloc ?_ _)); exact BK489.out⟩, ⟨by repeat (first | (with_reducible first | exact HB.out | apply below_alloc | apply pw_below_drewN | apply below_drew1 | refine below_set ?_ GE488.out | refine below_set ?_ GE489.out) | exact HB.out)⟩⟩
  case rest =>
    clear HC3
    try clear c1
    try clear p2
    try clear c4
    try clear c7
    try clear c9
    try clear c14
    try clear hcz10_0
    try clear hcz10_1
    try clear hcz12_0
    try clear hcz12_1
    try clear hcz15_0
    try clear hcz15_1
    try clear hfz10_0
    try clear hfz10_1
    try clear hfz12_0
    try clear hfz12_1
    try clear hfz15_0
    try clear hfz15_1
    obtain ⟨kq, x17_2, rfl, HA, HJ2, BK488, BK489, HB⟩ := hcut
    cases kq with
    | zero => exact absurd HA.out (by simp [offcutlaw02_WholeOrder.j0])
    | succ kj2 =>
      have H := HA.out
      clear HA
      simp only [offcutlaw02_WholeOrder.j0] at H
      by_cases c17 : x17_2 = true
      · subst c17
        have H1 : ((offcutlaw02_awake.f kj2).bind fun t492 => (some t492)) = some r := by rw [if_pos rfl] at H; exact H
        clear H
        have H := H1
        clear H1
        replace H := Option.bind_eq_some_iff.mp H
        obtain ⟨t492, A180, H⟩ := H
        replace H : (some t492) = some r := H
        have A18 := Aside0.mk A180
        clear A180
        obtain rfl := Option.some.inj H
        go_wp2_with (first | ((with_reducible refine gate_callee (f := 18) rfl ?_); refine goesL_ (some 18) rfl rfl Try.func18 (by kernel_rfl) rfl #[] rfl (by (try simp only [List.map_toArray, List.map_cons, List.map_nil]); first | done | rfl | (simp only [List.length_drop, List.length_take]; rfl)) ?_; (with_reducible refine (offcutlaw02_awake.calls kj2  t492 _ HRT.out A18.out).mono ?_); rintro e w19 ⟨rfl, hb⟩; refine ⟨_, rfl, ?_⟩; have n0_ := Aside0.mk (blk_below (g := gb488) (o := .cells #[.bool a0_0, .slice A0_1 l0_1.length c0_1] 25 (0, 0)) (by (with_reducible repeat (first | refine blk_drewN ?_ _ | refine blk_drew ?_ | refine blk_alloc ?_ _)); exact BK488.out) hb); have n1_ := Aside0.mk (blk_below (g := gb489) (o := .cells #[.bool a1_0, .slice A1_1 l1_1.length c1_1] 25 (0, 0)) (by (with_reducible repeat (first | refine blk_drewN ?_ _ | refine blk_drew ?_ | refine blk_alloc ?_ _)); exact BK489.out) hb); have n2_ := Aside0.mk (below_step (by repeat (first | (with_reducible first | exact HB.out | apply below_alloc | apply pw_below_drewN | apply below_drew1 | refine below_set ?_ GE488.out | refine below_set ?_ GE489.out) | exact HB.out)) hb); clear BK488; clear BK489; clear HB; have BK488 := n0_; have BK489 := n1_; have HB := n2_; clear n0_ n1_ n2_; (try clear hb)))
        go_ret
        exact ⟨by first | rfl | (simp [errW_none, errW_some] <;> rfl) | (simp [*, errW_none, errW_some] <;> rfl), by repeat (first | (with_reducible first | exact HB.out | apply below_alloc | apply pw_below_drewN | apply below_drew1 | refine below_set ?_ GE488.out | refine below_set ?_ GE489.out) | exact HB.out)⟩
      · replace c17 := Bool.eq_false_iff.mpr c17
        subst c17
        have H1 : ((offcutlaw02_of.f kj2 a0_0 l0_1).bind fun t493 => ((offcutlaw02_of.f kj2 a1_0 l1_1).bind fun t494 => ((offcutref02_Less.f kj2 t493 t494).bind fun t495 => (if t495 = true then (offcutlaw02_WholeOrder.j1 kj2 t493 t494 (-1) 0 a0_0 l0_1 a1_0 l1_1) else (offcutlaw02_WholeOrder.j1 kj2 t493 t494 0 0 a0_0 l0_1 a1_0 l1_1))))) = some r := by rw [if_neg (show ¬ (false = true) by decide)] at H; exact H
        clear H
        have H := H1
        clear H1
        replace H := Option.bind_eq_some_iff.mp H
        obtain ⟨t493, A200, H⟩ := H
        replace H : ((offcutlaw02_of.f kj2 a1_0 l1_1).bind fun t494 => ((offcutref02_Less.f kj2 t493 t494).bind fun t495 => (if t495 = true then (offcutlaw02_WholeOrder.j1 kj2 t493 t494 (-1) 0 a0_0 l0_1 a1_0 l1_1) else (offcutlaw02_WholeOrder.j1 kj2 t493 t494 0 0 a0_0 l0_1 a1_0 l1_1)))) = some r := H
        have A20 := Aside0.mk A200
        clear A200
        replace H := Option.bind_eq_some_iff.mp H
        obtain ⟨t494, A210, H⟩ := H
        replace H : ((offcutref02_Less.f kj2 t493 t494).bind fun t495 => (if t495 = true then (offcutlaw02_WholeOrder.j1 kj2 t493 t494 (-1) 0 a0_0 l0_1 a1_0 l1_1) else (offcutlaw02_WholeOrder.j1 kj2 t493 t494 0 0 a0_0 l0_1 a1_0 l1_1))) = some r := H
        have A21 := Aside0.mk A210
        clear A210
        replace H := Option.bind_eq_some_iff.mp H
        obtain ⟨t495, A220, H⟩ := H
        replace H : (if t495 = true then (offcutlaw02_WholeOrder.j1 kj2 t493 t494 (-1) 0 a0_0 l0_1 a1_0 l1_1) else (offcutlaw02_WholeOrder.j1 kj2 t493 t494 0 0 a0_0 l0_1 a1_0 l1_1)) = some r := H
        have A22 := Aside0.mk A220
        clear A220
        have HC23 := Aside0.mk H
        clear H
        try go_wp2
        have n0_ := Aside0.mk (blk_drew BK488.out)
        have n1_ := Aside0.mk (blk_drew BK489.out)
        have n2_ := Aside0.mk (below_drew1 HB.out)
        clear BK488
        clear BK489
        clear HB
        have BK488 := n0_
        have BK489 := n1_
        have HB := n2_
        clear n0_ n1_ n2_
        refine start_ (n := 6) (S := fun w' => w'.cell? ⟨gb488, 0, none⟩ = some (.bool a0_0) ∧ w'.cell? ⟨gb488, 1, none⟩ = some (.slice A0_1 l0_1.length c0_1) ∧ w'.cell? ⟨gb489, 0, none⟩ = some (.bool a1_0) ∧ w'.cell? ⟨gb489, 1, none⟩ = some (.slice A1_1 l1_1.length c1_1)) (ds := []) #[false, false, false, false, false, false] (by kernel_rfl) rfl rfl ⟨(blk_cell BK488.out 0).trans rfl, (blk_cell BK488.out 1).trans rfl, (blk_cell BK489.out 0).trans rfl, (blk_cell BK489.out 1).trans rfl⟩ (fun hHeld => ?_)
        generalize wc.drew = w24 at BK488 BK489 HB hHeld ⊢
        refine take_ (i := 0) (N := some 19) (v := ?_) (a' := ?_) #[true, false, false, false, false, false] rfl rfl (by kernel_rfl) (fun _ _ _ h => h) (Or.inl ⟨by rfl, ?_⟩) hHeld ?_ ?_
        rotate_left
        · rintro w' ⟨s0, s1, s2, s3⟩
          go_simp
          with_reducible rfl
        rotate_left
        · simp only [Act.put, List.setIfInBounds_toArray, List.set_cons_zero, List.set_cons_succ, i64_w, i32_w]
          rfl
        refine take_ (i := 2) (N := some 21) (v := ?_) (a' := ?_) #[true, false, true, false, false, false] rfl rfl (by kernel_rfl) (fun _ _ _ h => h) (Or.inl ⟨by rfl, ?_⟩) hHeld ?_ ?_
        rotate_left
        · rintro w' ⟨s0, s1, s2, s3⟩
          go_simp
          with_reducible rfl
        rotate_left
        · simp only [Act.put, List.setIfInBounds_toArray, List.set_cons_zero, List.set_cons_succ, i64_w, i32_w]
          rfl
        refine one_ (i := 1) (N := some 20) #[true, true, true, false, false, false] rfl rfl (by kernel_rfl) (by decide) (fun K hK => ?_)
        refine goes_ Try.func19 (by kernel_rfl) rfl #[.agg #[.bool a0_0, .slice A0_1 l0_1.length c0_1]] (by rfl) rfl rfl (by (try simp only [List.map_toArray, List.map_cons, List.map_nil]); first | done | rfl | (simp only [List.length_drop, List.length_take]; rfl)) ?_
        with_reducible refine (offcutlaw02_of.calls kj2 a0_0 _ _ l0_1 t493 _ ?side1 ?side2 A20.out).mono ?_
        (case side1 => repeat (first | exact (Kd.C_below HR0_1.out HB.out) | (with_reducible refine Kd.C_alloc ?_ _) | (with_reducible refine Kd.C_drewN ?_ _) | (with_reducible refine Kd.C_drew ?_)))
        (case side2 => exact HC0_1.out)
        rintro e w25 ⟨rfl, hb⟩
        refine ⟨_, rfl, ?_⟩
        have n0_ := Aside0.mk (blk_below (g := gb488) (o := .cells #[.bool a0_0, .slice A0_1 l0_1.length c0_1] 25 (0, 0)) (by (with_reducible repeat (first | refine blk_drewN ?_ _ | refine blk_drew ?_ | refine blk_alloc ?_ _)); exact BK488.out) hb)
        have n1_ := Aside0.mk (blk_below (g := gb489) (o := .cells #[.bool a1_0, .slice A1_1 l1_1.length c1_1] 25 (0, 0)) (by (with_reducible repeat (first | refine blk_drewN ?_ _ | refine blk_drew ?_ | refine blk_alloc ?_ _)); exact BK489.out) hb)
        have n2_ := Aside0.mk (below_step (by repeat (first | (with_reducible first | exact HB.out | apply below_alloc | apply pw_below_drewN | apply below_drew1 | refine below_set ?_ GE488.out | refine below_set ?_ GE489.out) | exact HB.out)) hb)
        clear BK488
        clear BK489
        clear HB
        have BK488 := n0_
        have BK489 := n1_
        have HB := n2_
        clear n0_ n1_ n2_
        (try clear hb)
        refine hK.out _ _ ⟨(blk_cell BK488.out 0).trans rfl, (blk_cell BK488.out 1).trans rfl, (blk_cell BK489.out 0).trans rfl, (blk_cell BK489.out 1).trans rfl⟩ (fun hHeld => ?_)
        clear hK K
        refine norm_ (a' := ?_) ?_ ?_
        rotate_left
        · show Act.put _ (some 20) _ = _
          simp only [Act.put, List.setIfInBounds_toArray, List.set_cons_zero, List.set_cons_succ, i64_w, i32_w]
          rfl
        refine one_ (i := 3) (N := some 22) #[true, true, true, true, false, false] rfl rfl (by kernel_rfl) (by decide) (fun K hK => ?_)
        refine goes_ Try.func19 (by kernel_rfl) rfl #[.agg #[.bool a1_0, .slice A1_1 l1_1.length c1_1]] (by rfl) rfl rfl (by (try simp only [List.map_toArray, List.map_cons, List.map_nil]); first | done | rfl | (simp only [List.length_drop, List.length_take]; rfl)) ?_
        with_reducible refine (offcutlaw02_of.calls kj2 a1_0 _ _ l1_1 t494 _ ?side1 ?side2 A21.out).mono ?_
        (case side1 => repeat (first | exact (Kd.C_below HR1_1.out HB.out) | (with_reducible refine Kd.C_alloc ?_ _) | (with_reducible refine Kd.C_drewN ?_ _) | (with_reducible refine Kd.C_drew ?_)))
        (case side2 => exact HC1_1.out)
        rintro e w26 ⟨rfl, hb⟩
        refine ⟨_, rfl, ?_⟩
        have n0_ := Aside0.mk (blk_below (g := gb488) (o := .cells #[.bool a0_0, .slice A0_1 l0_1.length c0_1] 25 (0, 0)) (by (with_reducible repeat (first | refine blk_drewN ?_ _ | refine blk_drew ?_ | refine blk_alloc ?_ _)); exact BK488.out) hb)
        have n1_ := Aside0.mk (blk_below (g := gb489) (o := .cells #[.bool a1_0, .slice A1_1 l1_1.length c1_1] 25 (0, 0)) (by (with_reducible repeat (first | refine blk_drewN ?_ _ | refine blk_drew ?_ | refine blk_alloc ?_ _)); exact BK489.out) hb)
        have n2_ := Aside0.mk (below_step (by repeat (first | (with_reducible first | exact HB.out | apply below_alloc | apply pw_below_drewN | apply below_drew1 | refine below_set ?_ GE488.out | refine below_set ?_ GE489.out) | exact HB.out)) hb)
        clear BK488
        clear BK489
        clear HB
        have BK488 := n0_
        have BK489 := n1_
        have HB := n2_
        clear n0_ n1_ n2_
        (try clear hb)
        refine hK.out _ _ ⟨(blk_cell BK488.out 0).trans rfl, (blk_cell BK488.out 1).trans rfl, (blk_cell BK489.out 0).trans rfl, (blk_cell BK489.out 1).trans rfl⟩ (fun hHeld => ?_)
        clear hK K
        refine norm_ (a' := ?_) ?_ ?_
        rotate_left
        · show Act.put _ (some 22) _ = _
          simp only [Act.put, List.setIfInBounds_toArray, List.set_cons_zero, List.set_cons_succ, i64_w, i32_w]
          rfl
        refine pure_ (i := 4) (N := some 5) (v := ?_) (a' := ?_) #[true, true, true, true, true, false] rfl rfl (by kernel_rfl) (fun _ _ _ h => h) (Or.inl ⟨by rfl, ?_⟩) ?_ ?_
        rotate_left
        · intro w'
          go_simp
          with_reducible rfl
        rotate_left
        · simp only [Act.put, List.setIfInBounds_toArray, List.set_cons_zero, List.set_cons_succ, i64_w, i32_w]
          rfl
        refine pure_ (i := 5) (N := some 6) (v := ?_) (a' := ?_) #[true, true, true, true, true, true] rfl rfl (by kernel_rfl) (fun _ _ _ h => h) (Or.inl ⟨by rfl, ?_⟩) ?_ ?_
        rotate_left
        · intro w'
          go_simp
          with_reducible rfl
        rotate_left
        · simp only [Act.put, List.setIfInBounds_toArray, List.set_cons_zero, List.set_cons_succ, i64_w, i32_w]
          rfl
        refine done_ (by kernel_rfl) ?_
        go_upto_if 25 with (first | ((with_reducible refine gate_callee (f := 28) rfl ?_); refine goesL_ (some 25) rfl rfl Try.func28 (by kernel_rfl) rfl #[.string t493, .string t494] rfl (by (try simp only [List.map_toArray, List.map_cons, List.map_nil]); first | done | rfl | (simp only [List.length_drop, List.length_take]; rfl)) ?_; (with_reducible refine (offcutref02_Less.calls kj2 t493 t494 t495 _ A22.out).mono ?_); rintro e w' ⟨rfl, ⟨nd, rfl⟩⟩; refine ⟨_, rfl, ?_⟩))
        (try simp only [Act.put, List.setIfInBounds_toArray, List.set_cons_zero, List.set_cons_succ])
        go_cut [7] (fun v7 wc => ∃ (kq : Nat) (x7_22 : Int), v7 = .int .i64 x7_22 ∧ Aside0 (offcutlaw02_WholeOrder.j1 kq t493 t494 x7_22 0 a0_0 l0_1 a1_0 l1_1 = some r) ∧ Aside0 (kq ≤ kj2) ∧ Aside0 (wc.heap[gb488]? = some (.cells #[.bool a0_0, (.slice A0_1 l0_1.length c0_1)] 25 (0, 0))) ∧ Aside0 (wc.heap[gb489]? = some (.cells #[.bool a1_0, (.slice A1_1 l1_1.length c1_1)] 25 (0, 0))) ∧ Aside0 (Below w.heap.size w wc))
        case first =>
          have H := HC23.out
          clear HC23
          by_cases c27 : t495 = true
          · subst c27
            have H1 : (offcutlaw02_WholeOrder.j1 kj2 t493 t494 (-1) 0 a0_0 l0_1 a1_0 l1_1) = some r := by rw [if_pos rfl] at H; exact H
            clear H
            have H := H1
            clear H1
            have H' := Aside0.mk H
            clear H
            go_wp2
            go_meet
            case rel => exact ⟨_, ((-1)), (by first | rfl | (simp; done) | (simp [*]; done)), H', ⟨by have := HJ2.out; first | omega | exact Nat.le_refl _⟩, ⟨by (with_reducible repeat (first | refine blk_drewN ?_ _ | refine blk_drew ?_ | refine blk_alloc ?_ _)); exact BK488.out⟩, ⟨by (with_reducible repeat (first | refine blk_drewN ?_ _ | refine blk_drew ?_ | refine blk_alloc ?_ _)); exact BK489.out⟩, ⟨by repeat (first | (with_reducible first | exact HB.out | apply below_alloc | apply pw_below_drewN | apply below_drew1 | refine below_set ?_ GE488.out | refine below_set ?_ GE489.out) | exact HB.out)⟩⟩
          · replace c27 := Bool.eq_false_iff.mpr c27
            subst c27
            have H1 : (offcutlaw02_WholeOrder.j1 kj2 t493 t494 0 0 a0_0 l0_1 a1_0 l1_1) = some r := by rw [if_neg (show ¬ (false = true) by decide)] at H; exact H
            clear H
            have H := H1
            clear H1
            have H' := Aside0.mk H
            clear H
            go_wp2
            go_meet
            case rel => exact ⟨_, (0), (by first | rfl | (simp; done) | (simp [*]; done)), H', ⟨by have := HJ2.out; first | omega | exact Nat.le_refl _⟩, ⟨by (with_reducible repeat (first | refine blk_drewN ?_ _ | refine blk_drew ?_ | refine blk_alloc ?_ _)); exact BK488.out⟩, ⟨by (with_reducible repeat (first | refine blk_drewN ?_ _ | refine blk_drew ?_ | refine blk_alloc ?_ _)); exact BK489.out⟩, ⟨by repeat (first | (with_reducible first | exact HB.out | apply below_alloc | apply pw_below_drewN | apply below_drew1 | refine below_set ?_ GE488.out | refine below_set ?_ GE489.out) | exact HB.out)⟩⟩
        case rest =>
          clear HC23
          try clear c1
          try clear c2
          try clear p2
          try clear c4
          try clear c7
          try clear c9
          try clear c14
          try clear c17
          try clear c18
          try clear c19
          try clear c27
          try clear hcz10_0
          try clear hcz10_1
          try clear hcz12_0
          try clear hcz12_1
          try clear hcz15_0
          try clear hcz15_1
          try clear hfz10_0
          try clear hfz10_1
          try clear hfz12_0
          try clear hfz12_1
          try clear hfz15_0
          try clear hfz15_1
          try clear p2
          obtain ⟨kq, x7_22, rfl, HA, HJ22, BK488, BK489, HB⟩ := hcut
          cases kq with
          | zero => exact absurd HA.out (by simp [offcutlaw02_WholeOrder.j1])
          | succ kj22 =>
            have H := HA.out
            clear HA
            simp only [offcutlaw02_WholeOrder.j1] at H
            replace H := Option.bind_eq_some_iff.mp H
            obtain ⟨t496, A280, H⟩ := H
            replace H : (if t496 = true then (offcutlaw02_WholeOrder.j2 kj22 t493 1 0 a0_0 l0_1 a1_0 l1_1) else (offcutlaw02_WholeOrder.j2 kj22 t493 x7_22 0 a0_0 l0_1 a1_0 l1_1)) = some r := H
            have A28 := Aside0.mk A280
            clear A280
            have HC29 := Aside0.mk H
            clear H
            go_upto_if 28 with (first | ((with_reducible refine gate_callee (f := 28) rfl ?_); refine goesL_ (some 28) rfl rfl Try.func28 (by kernel_rfl) rfl #[.string t494, .string t493] rfl (by (try simp only [List.map_toArray, List.map_cons, List.map_nil]); first | done | rfl | (simp only [List.length_drop, List.length_take]; rfl)) ?_; (with_reducible refine (offcutref02_Less.calls kj22 t494 t493 t496 _ A28.out).mono ?_); rintro e w' ⟨rfl, ⟨nd, rfl⟩⟩; refine ⟨_, rfl, ?_⟩))
            (try simp only [Act.put, List.setIfInBounds_toArray, List.set_cons_zero, List.set_cons_succ])
            go_cut [7] (fun v7 wc => ∃ (kq : Nat) (x7_28 : Int), v7 = .int .i64 x7_28 ∧ Aside0 (offcutlaw02_WholeOrder.j2 kq t493 x7_28 0 a0_0 l0_1 a1_0 l1_1 = some r) ∧ Aside0 (kq ≤ kj22) ∧ Aside0 (wc.heap[gb488]? = some (.cells #[.bool a0_0, (.slice A0_1 l0_1.length c0_1)] 25 (0, 0))) ∧ Aside0 (wc.heap[gb489]? = some (.cells #[.bool a1_0, (.slice A1_1 l1_1.length c1_1)] 25 (0, 0))) ∧ Aside0 (Below w.heap.size w wc))
            case first =>
              have H := HC29.out
              clear HC29
              by_cases c30 : t496 = true
              · subst c30
                have H1 : (offcutlaw02_WholeOrder.j2 kj22 t493 1 0 a0_0 l0_1 a1_0 l1_1) = some r := by rw [if_pos rfl] at H; exact H
                clear H
                have H := H1
                clear H1
                have H' := Aside0.mk H
                clear H
                go_wp2
                go_meet
                case rel => exact ⟨_, (1), (by first | rfl | (simp; done) | (simp [*]; done)), H', ⟨by have := HJ2.out; have := HJ22.out; first | omega | exact Nat.le_refl _⟩, ⟨by (with_reducible repeat (first | refine blk_drewN ?_ _ | refine blk_drew ?_ | refine blk_alloc ?_ _)); exact BK488.out⟩, ⟨by (with_reducible repeat (first | refine blk_drewN ?_ _ | refine blk_drew ?_ | refine blk_alloc ?_ _)); exact BK489.out⟩, ⟨by repeat (first | (with_reducible first | exact HB.out | apply below_alloc | apply pw_below_drewN | apply below_drew1 | refine below_set ?_ GE488.out | refine below_set ?_ GE489.out) | exact HB.out)⟩⟩
              · replace c30 := Bool.eq_false_iff.mpr c30
                subst c30
                have H1 : (offcutlaw02_WholeOrder.j2 kj22 t493 x7_22 0 a0_0 l0_1 a1_0 l1_1) = some r := by rw [if_neg (show ¬ (false = true) by decide)] at H; exact H
                clear H
                have H := H1
                clear H1
                have H' := Aside0.mk H
                clear H
                go_wp2
                go_meet
                case rel => exact ⟨_, (x7_22), (by first | rfl | (simp; done) | (simp [*]; done)), H', ⟨by have := HJ2.out; have := HJ22.out; first | omega | exact Nat.le_refl _⟩, ⟨by (with_reducible repeat (first | refine blk_drewN ?_ _ | refine blk_drew ?_ | refine blk_alloc ?_ _)); exact BK488.out⟩, ⟨by (with_reducible repeat (first | refine blk_drewN ?_ _ | refine blk_drew ?_ | refine blk_alloc ?_ _)); exact BK489.out⟩, ⟨by repeat (first | (with_reducible first | exact HB.out | apply below_alloc | apply pw_below_drewN | apply below_drew1 | refine below_set ?_ GE488.out | refine below_set ?_ GE489.out) | exact HB.out)⟩⟩
            case rest =>
              clear HC29
              try clear c1
              try clear c2
              try clear p2
              try clear c3
              try clear c4
              try clear c7
              try clear c9
              try clear c14
              try clear c17
              try clear c18
              try clear c19
              try clear c27
              try clear c28
              try clear c30
              try clear hcz10_0
              try clear hcz10_1
              try clear hcz12_0
              try clear hcz12_1
              try clear hcz15_0
              try clear hcz15_1
              try clear hfz10_0
              try clear hfz10_1
              try clear hfz12_0
              try clear hfz12_1
              try clear hfz15_0
              try clear hfz15_1
              try clear p2
              obtain ⟨kq, x7_28, rfl, HA, HJ28, BK488, BK489, HB⟩ := hcut
              cases kq with
              | zero => exact absurd HA.out (by simp [offcutlaw02_WholeOrder.j2])
              | succ kj28 =>
                have H := HA.out
                clear HA
                simp only [offcutlaw02_WholeOrder.j2] at H
                have HC31 := Aside0.mk H
                clear H
                go_upto_if 30 with (fail)
                go_cut [8] (fun v8 wc => ∃ (kq : Nat) (x8_30 : Int), v8 = .int .i64 x8_30 ∧ Aside0 (offcutlaw02_WholeOrder.j3 kq t493 x7_28 x8_30 a0_0 l0_1 a1_0 l1_1 = some r) ∧ Aside0 (kq ≤ kj28) ∧ Aside0 (wc.heap[gb488]? = some (.cells #[.bool a0_0, (.slice A0_1 l0_1.length c0_1)] 25 (0, 0))) ∧ Aside0 (wc.heap[gb489]? = some (.cells #[.bool a1_0, (.slice A1_1 l1_1.length c1_1)] 25 (0, 0))) ∧ Aside0 (Below w.heap.size w wc))
                case first =>
                  have H := HC31.out
                  clear HC31
                  by_cases c32 : t493.toList = ([48] : List UInt8)
                  · rw [if_pos c32] at H
                    have c32b0 : (t493.toList == ([48] : List UInt8)) = true := beq_iff_eq.mpr c32
                    have c32b1 : (t493.toList != ([48] : List UInt8)) = false := bne_eq_false_iff_eq.mpr c32
                    clear c32
                    (first | rw [c32b0] | (simp only [i64_w, i32_w]; rw [c32b0]) | skip)
                    have H' := Aside0.mk H
                    clear H
                    go_wp2
                    go_meet
                    case rel => exact ⟨_, (0), (by first | rfl | (simp; done) | (simp [*]; done)), H', ⟨by have := HJ2.out; have := HJ22.out; have := HJ28.out; first | omega | exact Nat.le_refl _⟩, ⟨by (with_reducible repeat (first | refine blk_drewN ?_ _ | refine blk_drew ?_ | refine blk_alloc ?_ _)); exact BK488.out⟩, ⟨by (with_reducible repeat (first | refine blk_drewN ?_ _ | refine blk_drew ?_ | refine blk_alloc ?_ _)); exact BK489.out⟩, ⟨by repeat (first | (with_reducible first | exact HB.out | apply below_alloc | apply pw_below_drewN | apply below_drew1 | refine below_set ?_ GE488.out | refine below_set ?_ GE489.out) | exact HB.out)⟩⟩
                  · rw [if_neg c32] at H
                    have c32b0 : (t493.toList == ([48] : List UInt8)) = false := beq_eq_false_iff_ne.mpr c32
                    have c32b1 : (t493.toList != ([48] : List UInt8)) = true := bne_iff_ne.mpr c32
                    (first | rw [c32b0] | (simp only [i64_w, i32_w]; rw [c32b0]) | skip)
                    have H' := Aside0.mk H
                    clear H
                    go_wp2
                    go_meet
                    case rel => exact ⟨_, (1), (by first | rfl | (simp; done) | (simp [*]; done)), H', ⟨by have := HJ2.out; have := HJ22.out; have := HJ28.out; first | omega | exact Nat.le_refl _⟩, ⟨by (with_reducible repeat (first | refine blk_drewN ?_ _ | refine blk_drew ?_ | refine blk_alloc ?_ _)); exact BK488.out⟩, ⟨by (with_reducible repeat (first | refine blk_drewN ?_ _ | refine blk_drew ?_ | refine blk_alloc ?_ _)); exact BK489.out⟩, ⟨by repeat (first | (with_reducible first | exact HB.out | apply below_alloc | apply pw_below_drewN | apply below_drew1 | refine below_set ?_ GE488.out | refine below_set ?_ GE489.out) | exact HB.out)⟩⟩
                case rest =>
                  clear HC31
                  try clear c1
                  try clear c2
                  try clear p2
                  try clear c3
                  try clear c4
                  try clear c7
                  try clear c9
                  try clear c14
                  try clear c17
                  try clear c18
                  try clear c19
                  try clear c27
                  try clear c28
                  try clear c30
                  try clear c32
                  try clear c32b0
                  try clear c32b1
                  try clear hcz10_0
                  try clear hcz10_1
                  try clear hcz12_0
                  try clear hcz12_1
                  try clear hcz15_0
                  try clear hcz15_1
                  try clear hfz10_0
                  try clear hfz10_1
                  try clear hfz12_0
                  try clear hfz12_1
                  try clear hfz15_0
                  try clear hfz15_1
                  try clear p2
                  obtain ⟨kq, x8_30, rfl, HA, HJ30, BK488, BK489, HB⟩ := hcut
                  cases kq with
                  | zero => exact absurd HA.out (by simp [offcutlaw02_WholeOrder.j3])
                  | succ kj30 =>
                    have H := HA.out
                    clear HA
                    simp only [offcutlaw02_WholeOrder.j3] at H
                    replace H := Option.bind_eq_some_iff.mp H
                    obtain ⟨t497, A330, H⟩ := H
                    replace H : (if t497 = true then (offcutlaw02_WholeOrder.j4 kj30 t493 x7_28 (-1) a0_0 l0_1 a1_0 l1_1) else (offcutlaw02_WholeOrder.j4 kj30 t493 x7_28 x8_30 a0_0 l0_1 a1_0 l1_1)) = some r := H
                    have A33 := Aside0.mk A330
                    clear A330
                    have HC34 := Aside0.mk H
                    clear H
                    go_upto_if 32 with (first | ((with_reducible refine gate_callee (f := 29) rfl ?_); refine goesL_ (some 32) rfl rfl Try.func29 (by kernel_rfl) rfl #[.string t493] rfl (by (try simp only [List.map_toArray, List.map_cons, List.map_nil]); first | done | rfl | (simp only [List.length_drop, List.length_take]; rfl)) ?_; (with_reducible refine (offcutref02_Below.calls t493 t497 _ A33.out).mono ?_); rintro e w' ⟨rfl, ⟨nd, rfl⟩⟩; refine ⟨_, rfl, ?_⟩))
                    (try simp only [Act.put, List.setIfInBounds_toArray, List.set_cons_zero, List.set_cons_succ])
                    go_cut [8] (fun v8 wc => ∃ (kq : Nat) (x8_33 : Int), v8 = .int .i64 x8_33 ∧ Aside0 (offcutlaw02_WholeOrder.j4 kq t493 x7_28 x8_33 a0_0 l0_1 a1_0 l1_1 = some r) ∧ Aside0 (kq ≤ kj30) ∧ Aside0 (wc.heap[gb488]? = some (.cells #[.bool a0_0, (.slice A0_1 l0_1.length c0_1)] 25 (0, 0))) ∧ Aside0 (wc.heap[gb489]? = some (.cells #[.bool a1_0, (.slice A1_1 l1_1.length c1_1)] 25 (0, 0))) ∧ Aside0 (Below w.heap.size w wc))
                    case first =>
                      have H := HC34.out
                      clear HC34
                      by_cases c35 : t497 = true
                      · subst c35
                        have H1 : (offcutlaw02_WholeOrder.j4 kj30 t493 x7_28 (-1) a0_0 l0_1 a1_0 l1_1) = some r := by rw [if_pos rfl] at H; exact H
                        clear H
                        have H := H1
                        clear H1
                        have H' := Aside0.mk H
                        clear H
                        go_wp2
                        go_meet
                        case rel => exact ⟨_, ((-1)), (by first | rfl | (simp; done) | (simp [*]; done)), H', ⟨by have := HJ2.out; have := HJ22.out; have := HJ28.out; have := HJ30.out; first | omega | exact Nat.le_refl _⟩, ⟨by (with_reducible repeat (first | refine blk_drewN ?_ _ | refine blk_drew ?_ | refine blk_alloc ?_ _)); exact BK488.out⟩, ⟨by (with_reducible repeat (first | refine blk_drewN ?_ _ | refine blk_drew ?_ | refine blk_alloc ?_ _)); exact BK489.out⟩, ⟨by repeat (first | (with_reducible first | exact HB.out | apply below_alloc | apply pw_below_drewN | apply below_drew1 | refine below_set ?_ GE488.out | refine below_set ?_ GE489.out) | exact HB.out)⟩⟩
                      · replace c35 := Bool.eq_false_iff.mpr c35
                        subst c35
                        have H1 : (offcutlaw02_WholeOrder.j4 kj30 t493 x7_28 x8_30 a0_0 l0_1 a1_0 l1_1) = some r := by rw [if_neg (show ¬ (false = true) by decide)] at H; exact H
                        clear H
                        have H := H1
                        clear H1
                        have H' := Aside0.mk H
                        clear H
                        go_wp2
                        go_meet
                        case rel => exact ⟨_, (x8_30), (by first | rfl | (simp; done) | (simp [*]; done)), H', ⟨by have := HJ2.out; have := HJ22.out; have := HJ28.out; have := HJ30.out; first | omega | exact Nat.le_refl _⟩, ⟨by (with_reducible repeat (first | refine blk_drewN ?_ _ | refine blk_drew ?_ | refine blk_alloc ?_ _)); exact BK488.out⟩, ⟨by (with_reducible repeat (first | refine blk_drewN ?_ _ | refine blk_drew ?_ | refine blk_alloc ?_ _)); exact BK489.out⟩, ⟨by repeat (first | (with_reducible first | exact HB.out | apply below_alloc | apply pw_below_drewN | apply below_drew1 | refine below_set ?_ GE488.out | refine below_set ?_ GE489.out) | exact HB.out)⟩⟩
                    case rest =>
                      clear HC34
                      try clear c1
                      try clear c2
                      try clear p2
                      try clear c3
                      try clear c4
                      try clear c7
                      try clear c9
                      try clear c14
                      try clear c17
                      try clear c18
                      try clear c19
                      try clear c27
                      try clear c28
                      try clear c29
                      try clear c30
                      try clear c32
                      try clear c32b0
                      try clear c32b1
                      try clear c35
                      try clear hcz10_0
                      try clear hcz10_1
                      try clear hcz12_0
                      try clear hcz12_1
                      try clear hcz15_0
                      try clear hcz15_1
                      try clear hfz10_0
                      try clear hfz10_1
                      try clear hfz12_0
                      try clear hfz12_1
                      try clear hfz15_0
                      try clear hfz15_1
                      try clear p2
                      obtain ⟨kq, x8_33, rfl, HA, HJ33, BK488, BK489, HB⟩ := hcut
                      cases kq with
                      | zero => exact absurd HA.out (by simp [offcutlaw02_WholeOrder.j4])
                      | succ kj33 =>
                        have H := HA.out
                        clear HA
                        simp only [offcutlaw02_WholeOrder.j4] at H
                        have HC36 := Aside0.mk H
                        clear H
                        go_upto_region 13 with (fail)
                        go_cut [9] (fun v9 wc => ∃ (kq : Nat) (x9_35 : Bool), v9 = .bool x9_35 ∧ Aside0 (offcutlaw02_WholeOrder.j5 kq t493 x7_28 x8_33 x9_35 a0_0 l0_1 a1_0 l1_1 = some r) ∧ Aside0 (kq ≤ kj33) ∧ Aside0 (wc.heap[gb488]? = some (.cells #[.bool a0_0, (.slice A0_1 l0_1.length c0_1)] 25 (0, 0))) ∧ Aside0 (wc.heap[gb489]? = some (.cells #[.bool a1_0, (.slice A1_1 l1_1.length c1_1)] 25 (0, 0))) ∧ Aside0 (Below w.heap.size w wc))
                        case first =>
                          have H := HC36.out
                          clear HC36
                          by_cases c37 : (l0_1.length : Int) = 0
                          · rw [if_pos c37] at H
                            have c37b0 : ((l0_1.length : Int) == 0) = true := beq_iff_eq.mpr c37
                            have c37b1 : ((l0_1.length : Int) != 0) = false := bne_eq_false_iff_eq.mpr c37
                            clear c37
                            (first | rw [c37b0] | (simp only [i64_w, i32_w]; rw [c37b0]) | skip)
                            by_cases c38 : a0_0 = true
                            · subst c38
                              have H1 : (if (l0_1.length : Int) > 0 then (if 0 ≤ (wrap64 ((l0_1.length : Int) - 1)) then (if (wrap64 ((l0_1.length : Int) - 1)) < (l0_1.length : Int) then (offcutlaw02_WholeOrder.j5 kj33 t493 x7_28 x8_33 ((rd l0_1 (wrap64 ((l0_1.length : Int) - 1))) != 0) true l0_1 a1_0 l1_1) else (none)) else (none)) else (offcutlaw02_WholeOrder.j5 kj33 t493 x7_28 x8_33 false true l0_1 a1_0 l1_1)) = some r := by rw [if_pos rfl] at H; exact H
                              clear H
                              have H := H1
                              clear H1
                              by_cases c39 : (l0_1.length : Int) > 0
                              · rw [if_pos c39] at H
                                have c39b0 : decide (0 < (l0_1.length : Int)) = true := decide_eq_true c39
                                have c39b1 : decide (0 < l0_1.length) = true := decide_eq_true (by omega)
                                clear c39
                                obtain ⟨ji40, hji40⟩ : ∃ j_ : Int, (wrap64 ((l0_1.length : Int) - 1)) = j_ := ⟨_, rfl⟩
                                replace H : (if 0 ≤ (ji40) then (if (ji40) < (l0_1.length : Int) then (offcutlaw02_WholeOrder.j5 kj33 t493 x7_28 x8_33 ((rd l0_1 (ji40)) != 0) true l0_1 a1_0 l1_1) else (none)) else (none)) = some r := by first | (rw [hji40] at H; exact H) | (simp only [hji40] at H ⊢; exact H)
                                have hji40w : (IntKind.i64.wrap ((l0_1.length : Int) - 1)) = ji40 := (i64_w _).trans hji40
                                by_cases c41 : 0 ≤ (ji40)
                                · rw [if_pos c41] at H
                                  have c41b0 : decide (0 ≤ (ji40)) = true := decide_eq_true c41
                                  clear c41
                                  by_cases c42 : (ji40) < (l0_1.length : Int)
                                  · rw [if_pos c42] at H
                                    have c42b0 : decide ((ji40) < (l0_1.length : Int)) = true := decide_eq_true c42
                                    clear c42
                                    have H' := Aside0.mk H
                                    clear H
                                    have hnb43 := NB488_489.out
                                    have hnc43 := NB489_488.out
                                    have hcz44_0 : wc.cell? ⟨gb488, 0, none⟩ = some (.bool true) := (blk_cell BK488.out 0).trans rfl
                                    have hcz44_1 : wc.cell? ⟨gb488, 1, none⟩ = some (.slice A0_1 l0_1.length c0_1) := (blk_cell BK488.out 1).trans rfl
                                    have hfz44_0 := blk_frozen BK488.out 0
                                    have hfz44_1 := blk_frozen BK488.out 1
                                    have p498 : 0 ≤ ((ji40) : Int) := of_decide_eq_true (by first | (with_reducible assumption) | assumption)
                                    have q498 : (ji40) < (l0_1.length : Int) := of_decide_eq_true (by first | (with_reducible assumption) | assumption)
                                    obtain ⟨ad498, e498, hx498_0⟩ := Kd.at_int HR0_1.out (ji40) p498 q498
                                    cases e498
                                    replace hx498_0 := (HB.out.cell (World.block_lt_of_cell? w _ hx498_0)).trans hx498_0
                                    replace p498 := eq_true p498
                                    replace q498 := eq_true q498
                                    go_wp2
                                    go_meet
                                    case rel => exact ⟨_, (((rd l0_1 (ji40)) != 0)), (by first | rfl | (simp; done) | (simp only [← hji40] <;> (first | rfl | simp)) | (simp [*]; done)), H', ⟨by have := HJ2.out; have := HJ22.out; have := HJ28.out; have := HJ30.out; have := HJ33.out; first | omega | exact Nat.le_refl _⟩, ⟨by (with_reducible repeat (first | refine blk_drewN ?_ _ | refine blk_drew ?_ | refine blk_alloc ?_ _)); exact BK488.out⟩, ⟨by (with_reducible repeat (first | refine blk_drewN ?_ _ | refine blk_drew ?_ | refine blk_alloc ?_ _)); exact BK489.out⟩, ⟨by repeat (first | (with_reducible first | exact HB.out | apply below_alloc | apply pw_below_drewN | apply below_drew1 | refine below_set ?_ GE488.out | refine below_set ?_ GE489.out) | exact HB.out)⟩⟩
                                  · rw [if_neg c42] at H
                                    exact absurd H (by simp)
                                · rw [if_neg c41] at H
                                  exact absurd H (by simp)
                              · rw [if_neg c39] at H
                                have c39b0 : decide (0 < (l0_1.length : Int)) = false := decide_eq_false c39
                                have c39b1 : decide (0 < l0_1.length) = false := decide_eq_false (by omega)
                                clear c39
                                have H' := Aside0.mk H
                                clear H
                                have hnb45 := NB488_489.out
                                have hnc45 := NB489_488.out
                                have hcz46_0 : wc.cell? ⟨gb488, 0, none⟩ = some (.bool true) := (blk_cell BK488.out 0).trans rfl
                                have hcz46_1 : wc.cell? ⟨gb488, 1, none⟩ = some (.slice A0_1 l0_1.length c0_1) := (blk_cell BK488.out 1).trans rfl
                                have hfz46_0 := blk_frozen BK488.out 0
                                have hfz46_1 := blk_frozen BK488.out 1
                                go_wp2
                                go_meet
                                case rel => exact ⟨_, (false), (by first | rfl | (simp; done) | (simp [*]; done)), H', ⟨by have := HJ2.out; have := HJ22.out; have := HJ28.out; have := HJ30.out; have := HJ33.out; first | omega | exact Nat.le_refl _⟩, ⟨by (with_reducible repeat (first | refine blk_drewN ?_ _ | refine blk_drew ?_ | refine blk_alloc ?_ _)); exact BK488.out⟩, ⟨by (with_reducible repeat (first | refine blk_drewN ?_ _ | refine blk_drew ?_ | refine blk_alloc ?_ _)); exact BK489.out⟩, ⟨by repeat (first | (with_reducible first | exact HB.out | apply below_alloc | apply pw_below_drewN | apply below_drew1 | refine below_set ?_ GE488.out | refine below_set ?_ GE489.out) | exact HB.out)⟩⟩
                            · replace c38 := Bool.eq_false_iff.mpr c38
                              subst c38
                              have H1 : (offcutlaw02_WholeOrder.j5 kj33 t493 x7_28 x8_33 true false l0_1 a1_0 l1_1) = some r := by rw [if_neg (show ¬ (false = true) by decide)] at H; exact H
                              clear H
                              have H := H1
                              clear H1
                              have H' := Aside0.mk H
                              clear H
                              have hnb47 := NB488_489.out
                              have hnc47 := NB489_488.out
                              have hcz48_0 : wc.cell? ⟨gb488, 0, none⟩ = some (.bool false) := (blk_cell BK488.out 0).trans rfl
                              have hcz48_1 : wc.cell? ⟨gb488, 1, none⟩ = some (.slice A0_1 l0_1.length c0_1) := (blk_cell BK488.out 1).trans rfl
                              have hfz48_0 := blk_frozen BK488.out 0
                              have hfz48_1 := blk_frozen BK488.out 1
                              go_wp2
                              go_meet
                              case rel => exact ⟨_, (true), (by first | rfl | (simp; done) | (simp [*]; done)), H', ⟨by have := HJ2.out; have := HJ22.out; have := HJ28.out; have := HJ30.out; have := HJ33.out; first | omega | exact Nat.le_refl _⟩, ⟨by (with_reducible repeat (first | refine blk_drewN ?_ _ | refine blk_drew ?_ | refine blk_alloc ?_ _)); exact BK488.out⟩, ⟨by (with_reducible repeat (first | refine blk_drewN ?_ _ | refine blk_drew ?_ | refine blk_alloc ?_ _)); exact BK489.out⟩, ⟨by repeat (first | (with_reducible first | exact HB.out | apply below_alloc | apply pw_below_drewN | apply below_drew1 | refine below_set ?_ GE488.out | refine below_set ?_ GE489.out) | exact HB.out)⟩⟩
                          · rw [if_neg c37] at H
                            have c37b0 : ((l0_1.length : Int) == 0) = false := beq_eq_false_iff_ne.mpr c37
                            have c37b1 : ((l0_1.length : Int) != 0) = true := bne_iff_ne.mpr c37
                            have c37b2 : ¬ (l0_1 = []) := fun h_ => c37 (by rw [h_]; rfl)
                            (first | rw [c37b0] | (simp only [i64_w, i32_w]; rw [c37b0]) | skip)
                            by_cases c49 : (l0_1.length : Int) > 0
                            · rw [if_pos c49] at H
                              have c49b0 : decide (0 < (l0_1.length : Int)) = true := decide_eq_true c49
                              have c49b1 : decide (0 < l0_1.length) = true := decide_eq_true (by omega)
                              clear c49
                              obtain ⟨ji50, hji50⟩ : ∃ j_ : Int, (wrap64 ((l0_1.length : Int) - 1)) = j_ := ⟨_, rfl⟩
                              replace H : (if 0 ≤ (ji50) then (if (ji50) < (l0_1.length : Int) then (offcutlaw02_WholeOrder.j5 kj33 t493 x7_28 x8_33 ((rd l0_1 (ji50)) != 0) a0_0 l0_1 a1_0 l1_1) else (none)) else (none)) = some r := by first | (rw [hji50] at H; exact H) | (simp only [hji50] at H ⊢; exact H)
                              have hji50w : (IntKind.i64.wrap ((l0_1.length : Int) - 1)) = ji50 := (i64_w _).trans hji50
                              by_cases c51 : 0 ≤ (ji50)
                              · rw [if_pos c51] at H
                                have c51b0 : decide (0 ≤ (ji50)) = true := decide_eq_true c51
                                clear c51
                                by_cases c52 : (ji50) < (l0_1.length : Int)
                                · rw [if_pos c52] at H
                                  have c52b0 : decide ((ji50) < (l0_1.length : Int)) = true := decide_eq_true c52
                                  clear c52
                                  have H' := Aside0.mk H
                                  clear H
                                  have hnb53 := NB488_489.out
                                  have hnc53 := NB489_488.out
                                  have hcz54_0 : wc.cell? ⟨gb488, 0, none⟩ = some (.bool a0_0) := (blk_cell BK488.out 0).trans rfl
                                  have hcz54_1 : wc.cell? ⟨gb488, 1, none⟩ = some (.slice A0_1 l0_1.length c0_1) := (blk_cell BK488.out 1).trans rfl
                                  have hfz54_0 := blk_frozen BK488.out 0
                                  have hfz54_1 := blk_frozen BK488.out 1
                                  have p499 : 0 ≤ ((ji50) : Int) := of_decide_eq_true (by first | (with_reducible assumption) | assumption)
                                  have q499 : (ji50) < (l0_1.length : Int) := of_decide_eq_true (by first | (with_reducible assumption) | assumption)
                                  obtain ⟨ad499, e499, hx499_0⟩ := Kd.at_int HR0_1.out (ji50) p499 q499
                                  cases e499
                                  replace hx499_0 := (HB.out.cell (World.block_lt_of_cell? w _ hx499_0)).trans hx499_0
                                  replace p499 := eq_true p499
                                  replace q499 := eq_true q499
                                  go_wp2
                                  go_meet
                                  case rel => exact ⟨_, (((rd l0_1 (ji50)) != 0)), (by first | rfl | (simp; done) | (simp only [← hji50] <;> (first | rfl | simp)) | (simp [*]; done)), H', ⟨by have := HJ2.out; have := HJ22.out; have := HJ28.out; have := HJ30.out; have := HJ33.out; first | omega | exact Nat.le_refl _⟩, ⟨by (with_reducible repeat (first | refine blk_drewN ?_ _ | refine blk_drew ?_ | refine blk_alloc ?_ _)); exact BK488.out⟩, ⟨by (with_reducible repeat (first | refine blk_drewN ?_ _ | refine blk_drew ?_ | refine blk_alloc ?_ _)); exact BK489.out⟩, ⟨by repeat (first | (with_reducible first | exact HB.out | apply below_alloc | apply pw_below_drewN | apply below_drew1 | refine below_set ?_ GE488.out | refine below_set ?_ GE489.out) | exact HB.out)⟩⟩
                                · rw [if_neg c52] at H
                                  exact absurd H (by simp)
                              · rw [if_neg c51] at H
                                exact absurd H (by simp)
                            · rw [if_neg c49] at H
                              have c49b0 : decide (0 < (l0_1.length : Int)) = false := decide_eq_false c49
                              have c49b1 : decide (0 < l0_1.length) = false := decide_eq_false (by omega)
                              clear c49
                              have H' := Aside0.mk H
                              clear H
                              have hnb55 := NB488_489.out
                              have hnc55 := NB489_488.out
                              have hcz56_0 : wc.cell? ⟨gb488, 0, none⟩ = some (.bool a0_0) := (blk_cell BK488.out 0).trans rfl
                              have hcz56_1 : wc.cell? ⟨gb488, 1, none⟩ = some (.slice A0_1 l0_1.length c0_1) := (blk_cell BK488.out 1).trans rfl
                              have hfz56_0 := blk_frozen BK488.out 0
                              have hfz56_1 := blk_frozen BK488.out 1
                              go_wp2
                              go_meet
                              case rel => exact ⟨_, (false), (by first | rfl | (simp; done) | (simp [*]; done)), H', ⟨by have := HJ2.out; have := HJ22.out; have := HJ28.out; have := HJ30.out; have := HJ33.out; first | omega | exact Nat.le_refl _⟩, ⟨by (with_reducible repeat (first | refine blk_drewN ?_ _ | refine blk_drew ?_ | refine blk_alloc ?_ _)); exact BK488.out⟩, ⟨by (with_reducible repeat (first | refine blk_drewN ?_ _ | refine blk_drew ?_ | refine blk_alloc ?_ _)); exact BK489.out⟩, ⟨by repeat (first | (with_reducible first | exact HB.out | apply below_alloc | apply pw_below_drewN | apply below_drew1 | refine below_set ?_ GE488.out | refine below_set ?_ GE489.out) | exact HB.out)⟩⟩
                        case rest =>
                          clear HC36
                          try clear c1
                          try clear c2
                          try clear p2
                          try clear c3
                          try clear c4
                          try clear p4
                          try clear q4
                          try clear hx4
                          try clear c5
                          try clear p6
                          try clear c7
                          try clear c9
                          try clear c14
                          try clear c17
                          try clear c18
                          try clear c19
                          try clear c27
                          try clear c28
                          try clear c29
                          try clear c30
                          try clear c32
                          try clear c32b0
                          try clear c32b1
                          try clear c35
                          try clear c37
                          try clear c37b0
                          try clear c37b1
                          try clear c37b2
                          try clear c38
                          try clear c39
                          try clear c39b0
                          try clear c39b1
                          try clear c41
                          try clear c41b0
                          try clear c42
                          try clear c42b0
                          try clear c43
                          try clear c45
                          try clear c47
                          try clear c49
                          try clear c49b0
                          try clear c49b1
                          try clear p49
                          try clear q49
                          try clear hx49
                          try clear c51
                          try clear c51b0
                          try clear c52
                          try clear c52b0
                          try clear c53
                          try clear c55
                          try clear hcz10_0
                          try clear hcz10_1
                          try clear hcz12_0
                          try clear hcz12_1
                          try clear hcz15_0
                          try clear hcz15_1
                          try clear hcz44_0
                          try clear hcz44_1
                          try clear hcz46_0
                          try clear hcz46_1
                          try clear hcz48_0
                          try clear hcz48_1
                          try clear hcz54_0
                          try clear hcz54_1
                          try clear hcz56_0
                          try clear hcz56_1
                          try clear hfz10_0
                          try clear hfz10_1
                          try clear hfz12_0
                          try clear hfz12_1
                          try clear hfz15_0
                          try clear hfz15_1
                          try clear hfz44_0
                          try clear hfz44_1
                          try clear hfz46_0
                          try clear hfz46_1
                          try clear hfz48_0
                          try clear hfz48_1
                          try clear hfz54_0
                          try clear hfz54_1
                          try clear hfz56_0
                          try clear hfz56_1
                          try clear hx498_0
                          try clear hx499_0
                          try clear p2
                          try clear p498
                          try clear p499
                          try clear q498
                          try clear q499
                          obtain ⟨kq, x9_35, rfl, HA, HJ35, BK488, BK489, HB⟩ := hcut
                          cases kq with
                          | zero => exact absurd HA.out (by simp [offcutlaw02_WholeOrder.j5])
                          | succ kj35 =>
                            have H := HA.out
                            clear HA
                            simp only [offcutlaw02_WholeOrder.j5] at H
                            replace H := Option.bind_eq_some_iff.mp H
                            obtain ⟨t500, A570, H⟩ := H
                            replace H : (if t500 = x7_28 then ((whole_Sign.f kj35 a0_0 l0_1).bind fun t501 => (if t501 = x8_33 then ((whole_Right.f a0_0 l0_1).bind fun t502 => (if (t502 == x9_35) = true then ((whole_Make.f kj35 a0_0 l0_1).bind fun bt503 => ((offcutlaw02_is.f kj35 bt503.1 bt503.2 t493).bind fun t507 => (if t507 = true then ((offcutlaw02_awake.f kj35).bind fun t508 => (some t508)) else (some false)))) else (some false))) else (some false))) else (some false)) = some r := H
                            have A57 := Aside0.mk A570
                            clear A570
                            by_cases c58 : t500 = x7_28
                            · rw [if_pos c58] at H
                              have c58b0 : (t500 == x7_28) = true := beq_iff_eq.mpr c58
                              have c58b1 : (t500 != x7_28) = false := bne_eq_false_iff_eq.mpr c58
                              clear c58
                              replace H := Option.bind_eq_some_iff.mp H
                              obtain ⟨t501, A590, H⟩ := H
                              replace H : (if t501 = x8_33 then ((whole_Right.f a0_0 l0_1).bind fun t502 => (if (t502 == x9_35) = true then ((whole_Make.f kj35 a0_0 l0_1).bind fun bt503 => ((offcutlaw02_is.f kj35 bt503.1 bt503.2 t493).bind fun t507 => (if t507 = true then ((offcutlaw02_awake.f kj35).bind fun t508 => (some t508)) else (some false)))) else (some false))) else (some false)) = some r := H
                              have A59 := Aside0.mk A590
                              clear A590
                              by_cases c60 : t501 = x8_33
                              · rw [if_pos c60] at H
                                have c60b0 : (t501 == x8_33) = true := beq_iff_eq.mpr c60
                                have c60b1 : (t501 != x8_33) = false := bne_eq_false_iff_eq.mpr c60
                                clear c60
                                replace H := Option.bind_eq_some_iff.mp H
                                obtain ⟨t502, A610, H⟩ := H
                                replace H : (if (t502 == x9_35) = true then ((whole_Make.f kj35 a0_0 l0_1).bind fun bt503 => ((offcutlaw02_is.f kj35 bt503.1 bt503.2 t493).bind fun t507 => (if t507 = true then ((offcutlaw02_awake.f kj35).bind fun t508 => (some t508)) else (some false)))) else (some false)) = some r := H
                                have A61 := Aside0.mk A610
                                clear A610
                                by_cases c62 : (t502 == x9_35) = true
                                · rw [if_pos c62] at H
                                  have c62b0 : (t502 == x9_35) = true := c62
                                  (try (have c62b1 : decide (t502 = x9_35) = true := by simpa using c62))
                                  (try (have c62b2 : (t502 == x9_35) = true := by simpa using c62))
                                  clear c62
                                  replace H := Option.bind_eq_some_iff.mp H
                                  obtain ⟨⟨t503, t504⟩, A630, H⟩ := H
                                  replace H : ((offcutlaw02_is.f kj35 t503 t504 t493).bind fun t507 => (if t507 = true then ((offcutlaw02_awake.f kj35).bind fun t508 => (some t508)) else (some false))) = some r := H
                                  have A63 := Aside0.mk A630
                                  clear A630
                                  replace H := Option.bind_eq_some_iff.mp H
                                  obtain ⟨t507, A640, H⟩ := H
                                  replace H : (if t507 = true then ((offcutlaw02_awake.f kj35).bind fun t508 => (some t508)) else (some false)) = some r := H
                                  have A64 := Aside0.mk A640
                                  clear A640
                                  by_cases c65 : t507 = true
                                  · subst c65
                                    have H1 : ((offcutlaw02_awake.f kj35).bind fun t508 => (some t508)) = some r := by rw [if_pos rfl] at H; exact H
                                    clear H
                                    have H := H1
                                    clear H1
                                    replace H := Option.bind_eq_some_iff.mp H
                                    obtain ⟨t508, A660, H⟩ := H
                                    replace H : (some t508) = some r := H
                                    have A66 := Aside0.mk A660
                                    clear A660
                                    obtain rfl := Option.some.inj H
                                    have hnb67 := NB488_489.out
                                    have hnc67 := NB489_488.out
                                    have hcz68_0 : wc.cell? ⟨gb488, 0, none⟩ = some (.bool a0_0) := (blk_cell BK488.out 0).trans rfl
                                    have hcz68_1 : wc.cell? ⟨gb488, 1, none⟩ = some (.slice A0_1 l0_1.length c0_1) := (blk_cell BK488.out 1).trans rfl
                                    have hfz68_0 := blk_frozen BK488.out 0
                                    have hfz68_1 := blk_frozen BK488.out 1
                                    have hcz69_0 : wc.cell? ⟨gb489, 0, none⟩ = some (.bool a1_0) := (blk_cell BK489.out 0).trans rfl
                                    have hcz69_1 : wc.cell? ⟨gb489, 1, none⟩ = some (.slice A1_1 l1_1.length c1_1) := (blk_cell BK489.out 1).trans rfl
                                    have hfz69_0 := blk_frozen BK489.out 0
                                    have hfz69_1 := blk_frozen BK489.out 1
                                    go_wp2_with (first | ((with_reducible refine gate_callee (f := 30) rfl ?_); refine goesL_ (some 61) rfl rfl Try.func30 (by kernel_rfl) rfl #[.agg #[.bool a0_0, .slice A0_1 l0_1.length c0_1], .agg #[.bool a1_0, .slice A1_1 l1_1.length c1_1]] rfl (by (try simp only [List.map_toArray, List.map_cons, List.map_nil]); first | done | rfl | (simp only [List.length_drop, List.length_take]; rfl)) ?_; (with_reducible refine (whole_Compare.calls kj35 a0_0 _ _ l0_1 a1_0 _ _ l1_1 t500 _ ?side1 ?side2 ?side3 ?side4 A57.out).mono ?_); (case side1 => repeat (first | exact (Kd.C_below HR0_1.out HB.out) | (with_reducible refine Kd.C_alloc ?_ _) | (with_reducible refine Kd.C_drewN ?_ _) | (with_reducible refine Kd.C_drew ?_))); (case side2 => exact HC0_1.out); (case side3 => repeat (first | exact (Kd.C_below HR1_1.out HB.out) | (with_reducible refine Kd.C_alloc ?_ _) | (with_reducible refine Kd.C_drewN ?_ _) | (with_reducible refine Kd.C_drew ?_))); (case side4 => exact HC1_1.out); rintro e w70 ⟨rfl, hb⟩; refine ⟨_, rfl, ?_⟩; have n0_ := Aside0.mk (blk_below (g := gb488) (o := .cells #[.bool a0_0, .slice A0_1 l0_1.length c0_1] 25 (0, 0)) (by (with_reducible repeat (first | refine blk_drewN ?_ _ | refine blk_drew ?_ | refine blk_alloc ?_ _)); exact BK488.out) hb); have n1_ := Aside0.mk (blk_below (g := gb489) (o := .cells #[.bool a1_0, .slice A1_1 l1_1.length c1_1] 25 (0, 0)) (by (with_reducible repeat (first | refine blk_drewN ?_ _ | refine blk_drew ?_ | refine blk_alloc ?_ _)); exact BK489.out) hb); have n2_ := Aside0.mk (below_step (by repeat (first | (with_reducible first | exact HB.out | apply below_alloc | apply pw_below_drewN | apply below_drew1 | refine below_set ?_ GE488.out | refine below_set ?_ GE489.out) | exact HB.out)) hb); clear BK488; clear BK489; clear HB; have BK488 := n0_; have BK489 := n1_; have HB := n2_; clear n0_ n1_ n2_; (try clear hb); have hcz71_0 : w70.cell? ⟨gb488, 0, none⟩ = some (.bool a0_0) := (blk_cell BK488.out 0).trans rfl; have hcz71_1 : w70.cell? ⟨gb488, 1, none⟩ = some (.slice A0_1 l0_1.length c0_1) := (blk_cell BK488.out 1).trans rfl; have hfz71_0 := blk_frozen BK488.out 0; have hfz71_1 := blk_frozen BK488.out 1) | (go_at_call 31; (with_reducible refine (whole_Sign.calls kj35 a0_0 _ _ l0_1 t501 _ ?side1 ?side2 A59.out).mono ?_); (case side1 => repeat (first | exact (Kd.C_below HR0_1.out HB.out) | (with_reducible refine Kd.C_alloc ?_ _) | (with_reducible refine Kd.C_drewN ?_ _) | (with_reducible refine Kd.C_drew ?_))); (case side2 => exact HC0_1.out); rintro e w72 ⟨rfl, hb⟩; have n0_ := Aside0.mk (blk_below (g := gb488) (o := .cells #[.bool a0_0, .slice A0_1 l0_1.length c0_1] 25 (0, 0)) (by (with_reducible repeat (first | refine blk_drewN ?_ _ | refine blk_drew ?_ | refine blk_alloc ?_ _)); exact BK488.out) hb); have n1_ := Aside0.mk (blk_below (g := gb489) (o := .cells #[.bool a1_0, .slice A1_1 l1_1.length c1_1] 25 (0, 0)) (by (with_reducible repeat (first | refine blk_drewN ?_ _ | refine blk_drew ?_ | refine blk_alloc ?_ _)); exact BK489.out) hb); have n2_ := Aside0.mk (below_step (by repeat (first | (with_reducible first | exact HB.out | apply below_alloc | apply pw_below_drewN | apply below_drew1 | refine below_set ?_ GE488.out | refine below_set ?_ GE489.out) | exact HB.out)) hb); clear BK488; clear BK489; clear HB; have BK488 := n0_; have BK489 := n1_; have HB := n2_; clear n0_ n1_ n2_; (try clear hb); have hcz73_0 : w72.cell? ⟨gb488, 0, none⟩ = some (.bool a0_0) := (blk_cell BK488.out 0).trans rfl; have hcz73_1 : w72.cell? ⟨gb488, 1, none⟩ = some (.slice A0_1 l0_1.length c0_1) := (blk_cell BK488.out 1).trans rfl; have hfz73_0 := blk_frozen BK488.out 0; have hfz73_1 := blk_frozen BK488.out 1) | (go_at_call 32; (with_reducible refine (whole_Right.calls a0_0 _ _ l0_1 t502 _ ?side1 ?side2 A61.out).mono ?_); (case side1 => repeat (first | exact (Kd.C_below HR0_1.out HB.out) | (with_reducible refine Kd.C_alloc ?_ _) | (with_reducible refine Kd.C_drewN ?_ _) | (with_reducible refine Kd.C_drew ?_))); (case side2 => exact HC0_1.out); rintro e w74 ⟨rfl, hb⟩; have n0_ := Aside0.mk (blk_below (g := gb488) (o := .cells #[.bool a0_0, .slice A0_1 l0_1.length c0_1] 25 (0, 0)) (by (with_reducible repeat (first | refine blk_drewN ?_ _ | refine blk_drew ?_ | refine blk_alloc ?_ _)); exact BK488.out) hb); have n1_ := Aside0.mk (blk_below (g := gb489) (o := .cells #[.bool a1_0, .slice A1_1 l1_1.length c1_1] 25 (0, 0)) (by (with_reducible repeat (first | refine blk_drewN ?_ _ | refine blk_drew ?_ | refine blk_alloc ?_ _)); exact BK489.out) hb); have n2_ := Aside0.mk (below_step (by repeat (first | (with_reducible first | exact HB.out | apply below_alloc | apply pw_below_drewN | apply below_drew1 | refine below_set ?_ GE488.out | refine below_set ?_ GE489.out) | exact HB.out)) hb); clear BK488; clear BK489; clear HB; have BK488 := n0_; have BK489 := n1_; have HB := n2_; clear n0_ n1_ n2_; (try clear hb); have hcz75_0 : w74.cell? ⟨gb488, 0, none⟩ = some (.bool a0_0) := (blk_cell BK488.out 0).trans rfl; have hcz75_1 : w74.cell? ⟨gb488, 1, none⟩ = some (.slice A0_1 l0_1.length c0_1) := (blk_cell BK488.out 1).trans rfl; have hfz75_0 := blk_frozen BK488.out 0; have hfz75_1 := blk_frozen BK488.out 1) | (go_at_call 33; (with_reducible refine (whole_Make.calls kj35 a0_0 _ _ l0_1 t503 t504 _ ?side1 ?side2 A63.out).mono ?_); (case side1 => repeat (first | exact (Kd.C_below HR0_1.out HB.out) | (with_reducible refine Kd.C_alloc ?_ _) | (with_reducible refine Kd.C_drewN ?_ _) | (with_reducible refine Kd.C_drew ?_))); (case side2 => exact HC0_1.out); rintro e w76 ⟨v505, rfl, ho0, hb⟩; have n0_ := Aside0.mk (Kd.R_lower ho0 (below_size (by repeat (first | (with_reducible first | exact HB.out | apply below_alloc | apply pw_below_drewN | apply below_drew1 | refine below_set ?_ GE488.out | refine below_set ?_ GE489.out) | exact HB.out)))); have n1_ := Aside0.mk (blk_below (g := gb488) (o := .cells #[.bool a0_0, .slice A0_1 l0_1.length c0_1] 25 (0, 0)) (by (with_reducible repeat (first | refine blk_drewN ?_ _ | refine blk_drew ?_ | refine blk_alloc ?_ _)); exact BK488.out) hb); have n2_ := Aside0.mk (blk_below (g := gb489) (o := .cells #[.bool a1_0, .slice A1_1 l1_1.length c1_1] 25 (0, 0)) (by (with_reducible repeat (first | refine blk_drewN ?_ _ | refine blk_drew ?_ | refine blk_alloc ?_ _)); exact BK489.out) hb); have n3_ := Aside0.mk (below_step (by repeat (first | (with_reducible first | exact HB.out | apply below_alloc | apply pw_below_drewN | apply below_drew1 | refine below_set ?_ GE488.out | refine below_set ?_ GE489.out) | exact HB.out)) hb); clear BK488; clear BK489; clear HB; have HO506 := n0_; have BK488 := n1_; have BK489 := n2_; have HB := n3_; clear n0_ n1_ n2_ n3_; (try clear hb); (try clear ho0); obtain ⟨Ao77, co77, eo77⟩ := Kd.R_slice HO506.out; subst eo77) | (go_at_call 20; (with_reducible refine (offcutlaw02_is.calls kj35 t503 _ _ t504 t493 true _ ?side1 ?side2 A64.out).mono ?_); (case side1 => repeat (first | exact (Kd.R_reads' HO506.out).2.2 | (with_reducible refine Kd.C_alloc ?_ _) | (with_reducible refine Kd.C_drewN ?_ _) | (with_reducible refine Kd.C_drew ?_))); (case side2 => exact (Kd.R_reads' HO506.out).2.1); rintro e w78 ⟨rfl, hb⟩; have n0_ := Aside0.mk (Kd.R_below (by (with_reducible repeat (first | apply Kd.R_alloc | apply Kd.R_drewN | apply Kd.R_drew)); exact HO506.out) hb); have n1_ := Aside0.mk (blk_below (g := gb488) (o := .cells #[.bool a0_0, .slice A0_1 l0_1.length c0_1] 25 (0, 0)) (by (with_reducible repeat (first | refine blk_drewN ?_ _ | refine blk_drew ?_ | refine blk_alloc ?_ _)); exact BK488.out) hb); have n2_ := Aside0.mk (blk_below (g := gb489) (o := .cells #[.bool a1_0, .slice A1_1 l1_1.length c1_1] 25 (0, 0)) (by (with_reducible repeat (first | refine blk_drewN ?_ _ | refine blk_drew ?_ | refine blk_alloc ?_ _)); exact BK489.out) hb); have n3_ := Aside0.mk (below_step (by repeat (first | (with_reducible first | exact HB.out | apply below_alloc | apply pw_below_drewN | apply below_drew1 | refine below_set ?_ GE488.out | refine below_set ?_ GE489.out) | exact HB.out)) hb); clear HO506; clear BK488; clear BK489; clear HB; have HO506 := n0_; have BK488 := n1_; have BK489 := n2_; have HB := n3_; clear n0_ n1_ n2_ n3_; (try clear hb)) | (go_at_call 18; (with_reducible refine (offcutlaw02_awake.calls kj35  t508 _ HRT.out A66.out).mono ?_); rintro e w79 ⟨rfl, hb⟩; have n0_ := Aside0.mk (Kd.R_below (by (with_reducible repeat (first | apply Kd.R_alloc | apply Kd.R_drewN | apply Kd.R_drew)); exact HO506.out) hb); have n1_ := Aside0.mk (blk_below (g := gb488) (o := .cells #[.bool a0_0, .slice A0_1 l0_1.length c0_1] 25 (0, 0)) (by (with_reducible repeat (first | refine blk_drewN ?_ _ | refine blk_drew ?_ | refine blk_alloc ?_ _)); exact BK488.out) hb); have n2_ := Aside0.mk (blk_below (g := gb489) (o := .cells #[.bool a1_0, .slice A1_1 l1_1.length c1_1] 25 (0, 0)) (by (with_reducible repeat (first | refine blk_drewN ?_ _ | refine blk_drew ?_ | refine blk_alloc ?_ _)); exact BK489.out) hb); have n3_ := Aside0.mk (below_step (by repeat (first | (with_reducible first | exact HB.out | apply below_alloc | apply pw_below_drewN | apply below_drew1 | refine below_set ?_ GE488.out | refine below_set ?_ GE489.out) | exact HB.out)) hb); clear HO506; clear BK488; clear BK489; clear HB; have HO506 := n0_; have BK488 := n1_; have BK489 := n2_; have HB := n3_; clear n0_ n1_ n2_ n3_; (try clear hb)))
                                    go_ret
                                    exact ⟨by first | rfl | (simp [errW_none, errW_some] <;> rfl) | (simp [*, errW_none, errW_some] <;> rfl), by repeat (first | (with_reducible first | exact HB.out | apply below_alloc | apply pw_below_drewN | apply below_drew1 | refine below_set ?_ GE488.out | refine below_set ?_ GE489.out) | exact HB.out)⟩
                                  · replace c65 := Bool.eq_false_iff.mpr c65
                                    subst c65
                                    have H1 : (some false) = some r := by rw [if_neg (show ¬ (false = true) by decide)] at H; exact H
                                    clear H
                                    have H := H1
                                    clear H1
                                    obtain rfl := Option.some.inj H
                                    exact absurd HRT.out (by decide)
                                · rw [if_neg c62] at H
                                  have c62b0 : (t502 == x9_35) = false := by simpa using c62
                                  (try (have c62b1 : decide (t502 = x9_35) = false := by simpa using c62))
                                  (try (have c62b2 : (t502 == x9_35) = false := by simpa using c62))
                                  (try (have c62b3 : ¬ (t502 = x9_35) := by simpa using c62))
                                  clear c62
                                  obtain rfl := Option.some.inj H
                                  exact absurd HRT.out (by decide)
                              · rw [if_neg c60] at H
                                have c60b0 : (t501 == x8_33) = false := beq_eq_false_iff_ne.mpr c60
                                have c60b1 : (t501 != x8_33) = true := bne_iff_ne.mpr c60
                                obtain rfl := Option.some.inj H
                                exact absurd HRT.out (by decide)
                            · rw [if_neg c58] at H
                              have c58b0 : (t500 == x7_28) = false := beq_eq_false_iff_ne.mpr c58
                              have c58b1 : (t500 != x7_28) = true := bne_iff_ne.mpr c58
                              obtain rfl := Option.some.inj H
                              exact absurd HRT.out (by decide)

end Go.Proofs.Ytjpkljkkcbaohaa.PR
