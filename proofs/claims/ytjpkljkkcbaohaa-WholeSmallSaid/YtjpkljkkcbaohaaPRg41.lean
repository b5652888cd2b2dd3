/- Several functions' printed texts in one file. -/
import Derived.Test.YtjpkljkkcbaohaaInt
import Derived.Test.YtjpkljkkcbaohaaPRg0
import Derived.Test.YtjpkljkkcbaohaaDec
import Derived.Test.YtjpkljkkcbaohaaPRg32
section
namespace Go.Proofs.Ytjpkljkkcbaohaa.PR
open Go.RowKit Go.Proofs.YtjpkljkkcbaohaaW.PrintWords Go.Proofs.YtjpkljkkcbaohaaW.PrintLast Go.Proofs.YtjpkljkkcbaohaaW.PrintMore
attribute [local go_sem] max2_int min2_int max_two min_two max_three min_three max_four min_four   -- for this text's walks alone
set_option linter.unusedVariables false
set_option linter.unusedSimpArgs false

/-! ### offcutref02_Below: function 29 -/
def offcutref02_Below.f (a0 : ByteArray) : Option (Bool) := if 0 < (a0.size : Int) then (some ((bt a0 0) == 45)) else (none)
set_option maxHeartbeats 8000000 in
set_option maxRecDepth 100000 in
theorem offcutref02_Below.calls (a0 : ByteArray) (r : Bool) (w : World) (h : offcutref02_Below.f a0 = some r) :
    Calls Try.prog 29 #[.string a0] w fun e w' => e = .returned (.bool r) ∧ Drawn0 w w' := by
  have H : (if 0 < (a0.size : Int) then (some ((bt a0 0) == 45)) else (none)) = some r := h
  clear h
  by_cases c2 : 0 < (a0.size : Int)
  · rw [if_pos c2] at H
    have c2b0 : decide (0 < (a0.size : Int)) = true := decide_eq_true c2
    have c2b1 : decide (0 < a0.size) = true := decide_eq_true (by omega)
    clear c2
    obtain rfl := Option.some.inj H
    have p3 : 0 ≤ (0 : Int) := (by omega)
    have q3 : 0 < a0.size := (by have : (0 : Int) < (a0.size : Int) := of_decide_eq_true (by first | (with_reducible assumption) | assumption); omega)
    have hx3 : ∀ h : 0 < a0.size, ((a0[0]'h).toNat : Int) = bt a0 0 := bt_at a0 0
    clear p3
    have qi3 : (0 < (a0.size : Int)) = True := eq_true (of_decide_eq_true (by first | (with_reducible assumption) | assumption))
    replace q3 := eq_true q3
    go_enter Try.func29, Try.ntmps29
    go_wp2
    go_ret
    exact ⟨by first | rfl | (simp; done) | (simp [*]; done), by repeat (first | exact Drawn0.refl _ | apply Drawn0.step)⟩
  · rw [if_neg c2] at H
    exact absurd H (by simp)

theorem offcutref02_Below.sem (z : Int) : offcutref02_Below.f (Zn.tz z) = some (decide (z < 0)) := by
  unfold offcutref02_Below.f
  have := Zn.tz_size_pos z
  rw [if_pos (by omega)]
  congr 1
  by_cases h : z < 0
  · rw [decide_eq_true h, (Zn.tz_head z).2 h]
    rfl
  · rw [decide_eq_false h]
    exact beq_eq_false_iff_ne.2 (fun e => h ((Zn.tz_head z).1 e))

end Go.Proofs.Ytjpkljkkcbaohaa.PR

end
section
namespace Go.Proofs.Ytjpkljkkcbaohaa.PR
open Go.RowKit Go.Proofs.YtjpkljkkcbaohaaW.PrintWords Go.Proofs.YtjpkljkkcbaohaaW.PrintLast Go.Proofs.YtjpkljkkcbaohaaW.PrintMore
attribute [local go_sem] max2_int min2_int max_two min_two max_three min_three max_four min_four   -- for this text's walks alone
set_option linter.unusedVariables false
set_option linter.unusedSimpArgs false

/-! ### offcutref02_size: function 75 -/
def offcutref02_size.f (a0 : ByteArray) : Option (ByteArray) := (offcutref02_Below.f a0).bind fun t417 => (if t417 = true then (if 1 ≤ (a0.size : Int) then (some (a0.extract 1 a0.size)) else (none)) else (some a0))
set_option maxHeartbeats 8000000 in
set_option maxRecDepth 100000 in
theorem offcutref02_size.calls (a0 : ByteArray) (r : ByteArray) (w : World) (h : offcutref02_size.f a0 = some r) :
    Calls Try.prog 75 #[.string a0] w fun e w' => e = .returned (.string r) ∧ Drawn0 w w' := by
  have H : ((offcutref02_Below.f a0).bind fun t417 => (if t417 = true then (if 1 ≤ (a0.size : Int) then (some (a0.extract 1 a0.size)) else (none)) else (some a0))) = some r := h
  clear h
  replace H := Option.bind_eq_some_iff.mp H
  obtain ⟨t417, A20, H⟩ := H
  replace H : (if t417 = true then (if 1 ≤ (a0.size : Int) then (some (a0.extract 1 a0.size)) else (none)) else (some a0)) = some r := H
  have A2 := Aside0.mk A20
  clear A20
  by_cases c3 : t417 = true
  · subst c3
    have H1 : (if 1 ≤ (a0.size : Int) then (some (a0.extract 1 a0.size)) else (none)) = some r := by rw [if_pos rfl] at H; exact H
    clear H
    have H := H1
    clear H1
    by_cases c4 : 1 ≤ (a0.size : Int)
    · rw [if_pos c4] at H
      have c4b0 := eq_true c4
      have c4b1 : decide (1 ≤ (a0.size : Int)) = true := decide_eq_true c4
      clear c4
      obtain rfl := Option.some.inj H
      go_enter Try.func75, Try.ntmps75
      go_wp2_with (first | ((with_reducible refine gate_callee (f := 29) rfl ?_); refine goesL_ (some 4) rfl rfl Try.func29 (by kernel_rfl) rfl #[.string a0] rfl (by (try simp only [List.map_toArray, List.map_cons, List.map_nil]); first | done | rfl | (simp only [List.length_drop, List.length_take]; rfl)) ?_; (with_reducible refine (offcutref02_Below.calls a0 true _ A2.out).mono ?_); rintro e w' ⟨rfl, ⟨nd, rfl⟩⟩; refine ⟨_, rfl, ?_⟩))
      go_ret
      exact ⟨by first | rfl | (simp; done) | (simp [*]; done), by repeat (first | exact Drawn0.refl _ | apply Drawn0.step)⟩
    · rw [if_neg c4] at H
      exact absurd H (by simp)
  · replace c3 := Bool.eq_false_iff.mpr c3
    subst c3
    have H1 : (some a0) = some r := by rw [if_neg (show ¬ (false = true) by decide)] at H; exact H
    clear H
    have H := H1
    clear H1
    obtain rfl := Option.some.inj H
    go_enter Try.func75, Try.ntmps75
    go_wp2_with (first | ((with_reducible refine gate_callee (f := 29) rfl ?_); refine goesL_ (some 4) rfl rfl Try.func29 (by kernel_rfl) rfl #[.string a0] rfl (by (try simp only [List.map_toArray, List.map_cons, List.map_nil]); first | done | rfl | (simp only [List.length_drop, List.length_take]; rfl)) ?_; (with_reducible refine (offcutref02_Below.calls a0 false _ A2.out).mono ?_); rintro e w' ⟨rfl, ⟨nd, rfl⟩⟩; refine ⟨_, rfl, ?_⟩))
    go_ret
    exact ⟨by first | rfl | (simp; done) | (simp [*]; done), by repeat (first | exact Drawn0.refl _ | apply Drawn0.step)⟩

theorem offcutref02_size.sem (z : Int) : offcutref02_size.f (Zn.tz z) = some (Dec.dec z.natAbs) := by
  unfold offcutref02_size.f
  rw [offcutref02_Below.sem, Option.bind_some]
  by_cases h : z < 0
  · have := Zn.tz_size_pos z
    rw [if_pos (decide_eq_true h), if_pos (by omega), Zn.tz_neg h, Zn.minus_tail]
  · rw [if_neg (by rw [decide_eq_false h]; decide), Zn.tz_pos h]

end Go.Proofs.Ytjpkljkkcbaohaa.PR

end
section
namespace Go.Proofs.Ytjpkljkkcbaohaa.PR
open Go.RowKit Go.Proofs.YtjpkljkkcbaohaaW.PrintWords Go.Proofs.YtjpkljkkcbaohaaW.PrintLast Go.Proofs.YtjpkljkkcbaohaaW.PrintMore
attribute [local go_sem] max2_int min2_int max_two min_two max_three min_three max_four min_four   -- for this text's walks alone
set_option linter.unusedVariables false
set_option linter.unusedSimpArgs false

/-! ### offcutref01_Less: function 76 -/
def offcutref01_Less.f (a0 : ByteArray) (a1 : ByteArray) : Option (Bool) := if (a0.size : Int) = (a1.size : Int) then (some (Op.bytesLess a0.toList a1.toList)) else (some (decide ((a0.size : Int) < (a1.size : Int))))
set_option maxHeartbeats 8000000 in
set_option maxRecDepth 100000 in
theorem offcutref01_Less.calls (a0 : ByteArray) (a1 : ByteArray) (r : Bool) (w : World) (h : offcutref01_Less.f a0 a1 = some r) :
    Calls Try.prog 76 #[.string a0, .string a1] w fun e w' => e = .returned (.bool r) ∧ Drawn0 w w' := by
  have H : (if (a0.size : Int) = (a1.size : Int) then (some (Op.bytesLess a0.toList a1.toList)) else (some (decide ((a0.size : Int) < (a1.size : Int))))) = some r := h
  clear h
  by_cases c3 : (a0.size : Int) = (a1.size : Int)
  · rw [if_pos c3] at H
    have c3b0 : ((a0.size : Int) == (a1.size : Int)) = true := beq_iff_eq.mpr c3
    have c3b1 : ((a0.size : Int) != (a1.size : Int)) = false := bne_eq_false_iff_eq.mpr c3
    have c3b2 : (a0.size == a1.size) = true := by first | simpa using c3 | (simp at c3 ⊢; omega)
    clear c3
    obtain rfl := Option.some.inj H
    go_enter Try.func76, Try.ntmps76
    go_wp2
    go_ret
    exact ⟨by first | rfl | (simp; done) | (simp [*]; done), by repeat (first | exact Drawn0.refl _ | apply Drawn0.step)⟩
  · rw [if_neg c3] at H
    have c3b0 : ((a0.size : Int) == (a1.size : Int)) = false := beq_eq_false_iff_ne.mpr c3
    have c3b1 : ((a0.size : Int) != (a1.size : Int)) = true := bne_iff_ne.mpr c3
    have c3b2 : (a0.size == a1.size) = false := by first | simpa using c3 | (simp at c3 ⊢; omega)
    obtain rfl := Option.some.inj H
    go_enter Try.func76, Try.ntmps76
    go_wp2
    go_ret
    exact ⟨by first | rfl | (simp; done) | (simp [*]; done), by repeat (first | exact Drawn0.refl _ | apply Drawn0.step)⟩

theorem offcutref01_Less.sem (m n : Nat) : offcutref01_Less.f (Dec.dec m) (Dec.dec n) = some (decide (m < n)) := by
  unfold offcutref01_Less.f
  by_cases h : (Dec.dec m).size = (Dec.dec n).size
  · rw [if_pos (by omega), Dec.less_dec m n h]
  · rw [if_neg (by omega)]
    congr 1
    unfold Dec.dec at h ⊢
    rw [Dec.tx_size, Dec.tx_size] at h ⊢
    rcases Nat.lt_or_ge (Dec.dc m).length (Dec.dc n).length with h1 | h1
    · rw [decide_eq_true (Dec.dc_len_lt h1), decide_eq_true (by omega)]
    · have := Dec.dc_len_lt (m := n) (n := m) (by omega)
      rw [decide_eq_false (by omega), decide_eq_false (by omega)]

end Go.Proofs.Ytjpkljkkcbaohaa.PR

end
section
namespace Go.Proofs.Ytjpkljkkcbaohaa.PR
open Go.RowKit Go.Proofs.YtjpkljkkcbaohaaW.PrintWords Go.Proofs.YtjpkljkkcbaohaaW.PrintLast Go.Proofs.YtjpkljkkcbaohaaW.PrintMore
attribute [local go_sem] max2_int min2_int max_two min_two max_three min_three max_four min_four   -- for this text's walks alone
set_option linter.unusedVariables false
set_option linter.unusedSimpArgs false

/-! ### offcutref01_Sub: function 77 -/
def offcutref01_Sub.l0 : Nat → ByteArray → ByteArray → ByteArray → Int → Int → Option (ByteArray)
  | 0, _, _, _, _, _ => none
  | k + 1, x0, x1, x5, x6, x7 => if x7 < (x0.size : Int) then ((offcutref01_at.f x0 x7).bind fun t418 => ((offcutref01_at.f x1 x7).bind fun t419 => ((offcutref01_sign.f (Int.tmod (wrap64 ((wrap64 ((wrap64 (t418 - t419)) - x6)) + 10)) 10)).bind fun t420 => (if t420.size + x5.size ≤ 9223372036854775807 then (offcutref01_Sub.l0 k x0 x1 (t420 ++ x5) (wrap64 (1 - (wrap64 (Int.tdiv (wrap64 ((wrap64 ((wrap64 (t418 - t419)) - x6)) + 10)) 10)))) (wrap64 (x7 + 1))) else (none))))) else ((offcutref01_cut.f k x5).bind fun t421 => (some t421))
def offcutref01_Sub.f (k : Nat) (a0 : ByteArray) (a1 : ByteArray) : Option (ByteArray) := offcutref01_Sub.l0 k a0 a1 (⟨#[]⟩ : ByteArray) 0 0
theorem offcutref01_Sub.mono_l : ∀ k, (∀ y0 y1 y2 y3 y4, LeO (offcutref01_Sub.l0 k y0 y1 y2 y3 y4) (offcutref01_Sub.l0 (k + 1) y0 y1 y2 y3 y4))
  | 0 => fun _ _ _ _ _ r h => by simp [offcutref01_Sub.l0] at h
  | k + 1 => by
    have ih0 := offcutref01_Sub.mono_l k
    · intro y0 y1 y2 y3 y4
      unfold offcutref01_Sub.l0
      repeat' first
      | (with_reducible exact ih0 _ _ _ _ _)
      | (with_reducible exact offcutref01_cut.mono _ _)
      | (with_reducible exact LeO.refl _)
      | (with_reducible exact LeO.none _)
      | (with_reducible refine LeO.ite ?_ ?_)
      | (with_reducible refine LeO.bind ?_ (fun _ => ?_))
      | exact ih0 _ _ _ _ _
      | exact offcutref01_cut.mono _ _
      | exact LeO.none _
      | refine LeO.ite ?_ ?_
      | refine LeO.bind ?_ (fun _ => ?_)
theorem offcutref01_Sub.mono : ∀ a0 a1 k, LeO (offcutref01_Sub.f k a0 a1) (offcutref01_Sub.f (k + 1) a0 a1) := by
  intro a0 a1 k
  have ih0 := offcutref01_Sub.mono_l k
  unfold offcutref01_Sub.f
  repeat' first
      | (with_reducible exact ih0 _ _ _ _ _)
      | (with_reducible exact offcutref01_cut.mono _ _)
      | (with_reducible exact LeO.refl _)
      | (with_reducible exact LeO.none _)
      | (with_reducible refine LeO.ite ?_ ?_)
      | (with_reducible refine LeO.bind ?_ (fun _ => ?_))
      | exact ih0 _ _ _ _ _
      | exact offcutref01_cut.mono _ _
      | exact LeO.none _
      | refine LeO.ite ?_ ?_
      | refine LeO.bind ?_ (fun _ => ?_)
set_option maxHeartbeats 8000000 in
set_option maxRecDepth 100000 in
theorem offcutref01_Sub.calls (k : Nat) (a0 : ByteArray) (a1 : ByteArray) (r : ByteArray) (w : World) (h : offcutref01_Sub.f k a0 a1 = some r) :
    Calls Try.prog 77 #[.string a0, .string a1] w fun e w' => e = .returned (.string r) ∧ Drawn0 w w' := by
  have H : (offcutref01_Sub.l0 k a0 a1 (⟨#[]⟩ : ByteArray) 0 0) = some r := h
  clear h
  have H' := Aside0.mk H
  clear H
  go_enter Try.func77, Try.ntmps77
  go_wp2
  go_loopg [5, 6, 7] k (fun kq v5 v6 v7 w' => ∃ (x5_1 : ByteArray) (x6_1 : Int) (x7_1 : Int), v5 = .string x5_1 ∧ v6 = .int .i64 x6_1 ∧ v7 = .int .i64 x7_1 ∧ Aside0 (offcutref01_Sub.l0 kq a0 a1 x5_1 x6_1 x7_1 = some r) ∧ Aside0 (kq ≤ k) ∧ Drawn0 w w')
  case atStart => exact ⟨((⟨#[]⟩ : ByteArray)), (0), (0), (by first | rfl | (simp; done) | (simp [*]; done)), (by first | rfl | (simp; done) | (simp [*]; done)), (by first | rfl | (simp; done) | (simp [*]; done)), H', ⟨Nat.le_refl _⟩, by repeat (first | exact Drawn0.refl _ | apply Drawn0.step)⟩
  case round =>
    clear H'
    try clear p2
    obtain ⟨x5_1, x6_1, x7_1, rfl, rfl, rfl, HA, HK1, ⟨m1, rfl⟩⟩ := hrel
    cases gk with
    | zero => exact absurd HA.out (by simp [offcutref01_Sub.l0])
    | succ k1 =>
      have H := HA.out
      clear HA
      simp only [offcutref01_Sub.l0] at H
      by_cases c3 : x7_1 < (a0.size : Int)
      · rw [if_pos c3] at H
        have c3b0 : decide (x7_1 < (a0.size : Int)) = true := decide_eq_true c3
        clear c3
        replace H := Option.bind_eq_some_iff.mp H
        obtain ⟨t418, A40, H⟩ := H
        replace H : ((offcutref01_at.f a1 x7_1).bind fun t419 => ((offcutref01_sign.f (Int.tmod (wrap64 ((wrap64 ((wrap64 (t418 - t419)) - x6_1)) + 10)) 10)).bind fun t420 => (if t420.size + x5_1.size ≤ 9223372036854775807 then (offcutref01_Sub.l0 k1 a0 a1 (t420 ++ x5_1) (wrap64 (1 - (wrap64 (Int.tdiv (wrap64 ((wrap64 ((wrap64 (t418 - t419)) - x6_1)) + 10)) 10)))) (wrap64 (x7_1 + 1))) else (none)))) = some r := H
        have A4 := Aside0.mk A40
        clear A40
        replace H := Option.bind_eq_some_iff.mp H
        obtain ⟨t419, A50, H⟩ := H
        replace H : ((offcutref01_sign.f (Int.tmod (wrap64 ((wrap64 ((wrap64 (t418 - t419)) - x6_1)) + 10)) 10)).bind fun t420 => (if t420.size + x5_1.size ≤ 9223372036854775807 then (offcutref01_Sub.l0 k1 a0 a1 (t420 ++ x5_1) (wrap64 (1 - (wrap64 (Int.tdiv (wrap64 ((wrap64 ((wrap64 (t418 - t419)) - x6_1)) + 10)) 10)))) (wrap64 (x7_1 + 1))) else (none))) = some r := H
        have A5 := Aside0.mk A50
        clear A50
        replace H := Option.bind_eq_some_iff.mp H
        obtain ⟨t420, A60, H⟩ := H
        replace H : (if t420.size + x5_1.size ≤ 9223372036854775807 then (offcutref01_Sub.l0 k1 a0 a1 (t420 ++ x5_1) (wrap64 (1 - (wrap64 (Int.tdiv (wrap64 ((wrap64 ((wrap64 (t418 - t419)) - x6_1)) + 10)) 10)))) (wrap64 (x7_1 + 1))) else (none)) = some r := H
        have A6 := Aside0.mk A60
        clear A60
        by_cases c7 : t420.size + x5_1.size ≤ 9223372036854775807
        · rw [if_pos c7] at H
          have c7b0 := eq_true c7
          have c7b1 : decide (t420.size + x5_1.size ≤ 9223372036854775807) = true := decide_eq_true c7
          try have c7b2 : (9223372036854775807 < t420.size + x5_1.size) = False := eq_false (Nat.not_lt.2 c7)
          have H' := Aside0.mk H
          clear H
          go_wp2_with (first | ((with_reducible refine gate_callee (f := 101) rfl ?_); refine goesL_ (some 17) rfl rfl Try.func101 (by kernel_rfl) rfl #[.string a0, .int .i64 x7_1] rfl (by (try simp only [List.map_toArray, List.map_cons, List.map_nil]); first | done | rfl | (simp only [List.length_drop, List.length_take]; rfl)) ?_; (with_reducible refine (offcutref01_at.calls a0 x7_1 t418 _ A4.out).mono ?_); rintro e w' ⟨rfl, ⟨nd, rfl⟩⟩; refine ⟨_, rfl, ?_⟩) | ((with_reducible refine gate_callee (f := 101) rfl ?_); refine goesL_ (some 20) rfl rfl Try.func101 (by kernel_rfl) rfl #[.string a1, .int .i64 x7_1] rfl (by (try simp only [List.map_toArray, List.map_cons, List.map_nil]); first | done | rfl | (simp only [List.length_drop, List.length_take]; rfl)) ?_; (with_reducible refine (offcutref01_at.calls a1 x7_1 t419 _ A5.out).mono ?_); rintro e w' ⟨rfl, ⟨nd, rfl⟩⟩; refine ⟨_, rfl, ?_⟩) | ((with_reducible refine gate_callee (f := 91) rfl ?_); refine goesL_ (some 27) rfl rfl Try.func91 (by kernel_rfl) rfl #[.int .i64 (Int.tmod (wrap64 ((wrap64 ((wrap64 (t418 - t419)) - x6_1)) + 10)) 10)] rfl (by (try simp only [List.map_toArray, List.map_cons, List.map_nil]); first | done | rfl | (simp only [List.length_drop, List.length_take]; rfl)) ?_; (with_reducible refine (offcutref01_sign.calls (Int.tmod (wrap64 ((wrap64 ((wrap64 (t418 - t419)) - x6_1)) + 10)) 10) t420 _ A6.out).mono ?_); rintro e w' ⟨rfl, ⟨nd, rfl⟩⟩; refine ⟨_, rfl, ?_⟩))
          go_roundg k1
          case measure => have := HK1.out; omega
          case rel => exact ⟨(t420 ++ x5_1), (wrap64 (1 - (wrap64 (Int.tdiv (wrap64 ((wrap64 ((wrap64 (t418 - t419)) - x6_1)) + 10)) 10)))), (wrap64 (x7_1 + 1)), (by first | rfl | (simp; done) | (simp [*]; done)), (by first | rfl | (simp; done) | (simp [*]; done)), (by first | rfl | (simp; done) | (simp [*]; done)), H', ⟨by have := HK1.out; omega⟩, by repeat (first | exact Drawn0.refl _ | apply Drawn0.step)⟩
        · rw [if_neg c7] at H
          exact absurd H (by simp)
      · rw [if_neg c3] at H
        have c3b0 : decide (x7_1 < (a0.size : Int)) = false := decide_eq_false c3
        clear c3
        replace H := Option.bind_eq_some_iff.mp H
        obtain ⟨t421, A80, H⟩ := H
        replace H : (some t421) = some r := H
        have A8 := Aside0.mk A80
        clear A80
        obtain rfl := Option.some.inj H
        go_wp2_with (first | ((with_reducible refine gate_callee (f := 92) rfl ?_); refine goesL_ (some 34) rfl rfl Try.func92 (by kernel_rfl) rfl #[.string x5_1] rfl (by (try simp only [List.map_toArray, List.map_cons, List.map_nil]); first | done | rfl | (simp only [List.length_drop, List.length_take]; rfl)) ?_; (with_reducible refine (offcutref01_cut.calls k1 x5_1 t421 _ A8.out).mono ?_); rintro e w' ⟨rfl, ⟨nd, rfl⟩⟩; refine ⟨_, rfl, ?_⟩))
        go_ret
        exact ⟨by first | rfl | (simp; done) | (simp [*]; done), by repeat (first | exact Drawn0.refl _ | apply Drawn0.step)⟩

theorem offcutref01_Sub.ev_l {a b : List Nat} (ha : Dec.Ds a) (hb : Dec.Ds b) (la : a.length < 1000000000) (lb : b.length ≤ a.length) (hba : Dec.dv b ≤ Dec.dv a) (d : Nat) : ∀ (out : List Nat) (c : Nat), out.length + d = a.length → Dec.Ds out → c ≤ 1 →
    Dec.dv (a.take out.length) + 10 ^ out.length * c = Dec.dv out + Dec.dv (b.take out.length) → Ev (fun k => offcutref01_Sub.l0 k (Dec.tx a) (Dec.tx b) (Dec.tx out) (c : Int) (out.length : Int)) (Dec.dec (Dec.dv a - Dec.dv b)) := by
  induction d with
  | zero =>
    intro out c hd ho hc hv
    have h1 := Dec.dv_lt ho
    rw [List.take_of_length_le (by omega), List.take_of_length_le (by omega)] at hv
    have hvv : Dec.dv out = Dec.dv a - Dec.dv b := by
      rcases Nat.eq_zero_or_pos c with h | h
      · subst h; omega
      · obtain rfl : c = 1 := by omega
        omega
    refine Ev.step (f := fun k => (offcutref01_cut.f k (Dec.tx out)).bind fun t => some t) (fun k => ?_) ?_
    · rw [offcutref01_Sub.l0, Dec.tx_size, if_neg (by omega)]
    · rw [← hvv]
      exact Ev.bind (offcutref01_cut.ev ho) (Ev.now _)
  | succ d ih =>
    intro out c hd ho hc hv
    have h1 := ha.getD out.length
    have h2 := hb.getD out.length
    obtain ⟨p, hp⟩ : ∃ p, p = a.getD out.length 0 := ⟨_, rfl⟩
    obtain ⟨q, hq⟩ : ∃ q, q = b.getD out.length 0 := ⟨_, rfl⟩
    rw [← hp] at h1
    rw [← hq] at h2
    obtain ⟨n, hn⟩ : ∃ n, n = p + 10 - q - c := ⟨_, rfl⟩
    have e1 : wrap64 ((wrap64 ((wrap64 ((p : Int) - (q : Int))) - (c : Int))) + 10) = (n : Int) := by
      rw [Dec.w64 (n := (p : Int) - (q : Int)) (by omega) (by omega), Dec.w64 (n := (p : Int) - (q : Int) - (c : Int)) (by omega) (by omega), Dec.w64 (by omega) (by omega)]
      omega
    have e2 : wrap64 (1 - ((n / 10 : Nat) : Int)) = ((1 - n / 10 : Nat) : Int) := by
      rw [Dec.w64 (by omega) (by omega)]
      omega
    refine Ev.step (f := fun k => offcutref01_Sub.l0 k (Dec.tx a) (Dec.tx b) (Dec.tx (out ++ [n % 10])) ((1 - n / 10 : Nat) : Int) ((out.length + 1 : Nat) : Int)) (fun k => ?_) ?_
    · rw [offcutref01_Sub.l0, Dec.tx_size, if_pos (by omega), offcutref01_at.sem ha (by omega), offcutref01_at.sem hb (by omega), ← hp, ← hq, Option.bind_some, Option.bind_some, e1, Dec.tmod10, Dec.tdiv10, offcutref01_sign.sem _ (Nat.mod_lt _ (by omega)), Option.bind_some, Dec.tx_append, Dec.tx_size, Dec.tx_size, if_pos (by rw [List.length_singleton]; omega), Dec.w64n _ (by omega), e2, Dec.w64s _ (by omega)]
    · have := ih (out ++ [n % 10]) (1 - n / 10) (by rw [List.length_append, List.length_singleton]; omega) (ho.snoc (Nat.mod_lt _ (by omega))) (by omega) (by
        rw [List.length_append, List.length_singleton, Dec.dv_take_succ, Dec.dv_take_succ, ← hp, ← hq, Dec.dv_snoc, Nat.pow_succ]
        have h3 : 10 ^ out.length * (p + 10 * (1 - n / 10)) = 10 ^ out.length * (n % 10 + q + c) := by congr 1; omega
        rw [Nat.mul_add, Nat.mul_add, Nat.mul_add, ← Nat.mul_assoc] at h3
        omega)
      rw [List.length_append, List.length_singleton] at this
      exact this
theorem offcutref01_Sub.ev {a b : List Nat} (ha : Dec.Ds a) (hb : Dec.Ds b) (la : a.length < 1000000000) (lb : b.length ≤ a.length) (hba : Dec.dv b ≤ Dec.dv a) : Ev (fun k => offcutref01_Sub.f k (Dec.tx a) (Dec.tx b)) (Dec.dec (Dec.dv a - Dec.dv b)) :=
  offcutref01_Sub.ev_l ha hb la lb hba a.length [] 0 (by rw [List.length_nil]; omega) Dec.Ds.nil (by omega) (by rw [List.length_nil, List.take_zero, List.take_zero]; rfl)
theorem offcutref01_Sub.ev_dec {m n : Nat} (h : n ≤ m) (hl : (Dec.dc m).length < 1000000000) : Ev (fun k => offcutref01_Sub.f k (Dec.dec m) (Dec.dec n)) (Dec.dec (m - n)) := by
  have hlen : (Dec.dc n).length ≤ (Dec.dc m).length := by
    rcases Nat.lt_or_ge (Dec.dc m).length (Dec.dc n).length with h1 | h1
    · have := Dec.dc_len_lt h1
      omega
    · exact h1
  have := offcutref01_Sub.ev (Dec.Ds_dc m) (Dec.Ds_dc n) hl hlen (by rw [Dec.dv_dc, Dec.dv_dc]; exact h)
  rw [Dec.dv_dc, Dec.dv_dc] at this
  exact this

end Go.Proofs.Ytjpkljkkcbaohaa.PR

end
section
namespace Go.Proofs.Ytjpkljkkcbaohaa.PR
open Go.RowKit Go.Proofs.YtjpkljkkcbaohaaW.PrintWords Go.Proofs.YtjpkljkkcbaohaaW.PrintLast Go.Proofs.YtjpkljkkcbaohaaW.PrintMore
attribute [local go_sem] max2_int min2_int max_two min_two max_three min_three max_four min_four   -- for this text's walks alone
set_option linter.unusedVariables false
set_option linter.unusedSimpArgs false

/-! ### offcutref02_Add: function 22 -/
def offcutref02_Add.f (k : Nat) (a0 : ByteArray) (a1 : ByteArray) : Option (ByteArray) := (offcutref02_Below.f a0).bind fun t422 => ((offcutref02_Below.f a1).bind fun t423 => (if (t422 == t423) = true then ((offcutref02_Below.f a0).bind fun t424 => ((offcutref02_size.f a0).bind fun t425 => ((offcutref02_size.f a1).bind fun t426 => ((offcutref01_Add.f k t425 t426).bind fun t427 => ((offcutref02_Made.f t424 t427).bind fun t428 => (some t428)))))) else ((offcutref02_size.f a0).bind fun t429 => ((offcutref02_size.f a1).bind fun t430 => ((offcutref01_Less.f t429 t430).bind fun t431 => (if t431 = true then ((offcutref02_Below.f a1).bind fun t432 => ((offcutref02_size.f a1).bind fun t433 => ((offcutref02_size.f a0).bind fun t434 => ((offcutref01_Sub.f k t433 t434).bind fun t435 => ((offcutref02_Made.f t432 t435).bind fun t436 => (some t436)))))) else ((offcutref02_Below.f a0).bind fun t437 => ((offcutref02_size.f a0).bind fun t438 => ((offcutref02_size.f a1).bind fun t439 => ((offcutref01_Sub.f k t438 t439).bind fun t440 => ((offcutref02_Made.f t437 t440).bind fun t441 => (some t441))))))))))))
theorem offcutref02_Add.mono : ∀ a0 a1 k, LeO (offcutref02_Add.f k a0 a1) (offcutref02_Add.f (k + 1) a0 a1) := by
  intro a0 a1 k
  unfold offcutref02_Add.f
  repeat' first
      | (with_reducible exact offcutref01_Add.mono _ _ _)
      | (with_reducible exact offcutref01_Sub.mono _ _ _)
      | (with_reducible exact LeO.refl _)
      | (with_reducible exact LeO.none _)
      | (with_reducible refine LeO.ite ?_ ?_)
      | (with_reducible refine LeO.bind ?_ (fun _ => ?_))
      | exact offcutref01_Add.mono _ _ _
      | exact offcutref01_Sub.mono _ _ _
      | exact LeO.none _
      | refine LeO.ite ?_ ?_
      | refine LeO.bind ?_ (fun _ => ?_)
set_option maxHeartbeats 8000000 in
set_option maxRecDepth 100000 in
theorem offcutref02_Add.calls (k : Nat) (a0 : ByteArray) (a1 : ByteArray) (r : ByteArray) (w : World) (h : offcutref02_Add.f k a0 a1 = some r) :
    Calls Try.prog 22 #[.string a0, .string a1] w fun e w' => e = .returned (.string r) ∧ Drawn0 w w' := by
  have H : ((offcutref02_Below.f a0).bind fun t422 => ((offcutref02_Below.f a1).bind fun t423 => (if (t422 == t423) = true then ((offcutref02_Below.f a0).bind fun t424 => ((offcutref02_size.f a0).bind fun t425 => ((offcutref02_size.f a1).bind fun t426 => ((offcutref01_Add.f k t425 t426).bind fun t427 => ((offcutref02_Made.f t424 t427).bind fun t428 => (some t428)))))) else ((offcutref02_size.f a0).bind fun t429 => ((offcutref02_size.f a1).bind fun t430 => ((offcutref01_Less.f t429 t430).bind fun t431 => (if t431 = true then ((offcutref02_Below.f a1).bind fun t432 => ((offcutref02_size.f a1).bind fun t433 => ((offcutref02_size.f a0).bind fun t434 => ((offcutref01_Sub.f k t433 t434).bind fun t435 => ((offcutref02_Made.f t432 t435).bind fun t436 => (some t436)))))) else ((offcutref02_Below.f a0).bind fun t437 => ((offcutref02_size.f a0).bind fun t438 => ((offcutref02_size.f a1).bind fun t439 => ((offcutref01_Sub.f k t438 t439).bind fun t440 => ((offcutref02_Made.f t437 t440).bind fun t441 => (some t441))))))))))))) = some r := h
  clear h
  replace H := Option.bind_eq_some_iff.mp H
  obtain ⟨t422, A30, H⟩ := H
  replace H : ((offcutref02_Below.f a1).bind fun t423 => (if (t422 == t423) = true then ((offcutref02_Below.f a0).bind fun t424 => ((offcutref02_size.f a0).bind fun t425 => ((offcutref02_size.f a1).bind fun t426 => ((offcutref01_Add.f k t425 t426).bind fun t427 => ((offcutref02_Made.f t424 t427).bind fun t428 => (some t428)))))) else ((offcutref02_size.f a0).bind fun t429 => ((offcutref02_size.f a1).bind fun t430 => ((offcutref01_Less.f t429 t430).bind fun t431 => (if t431 = true then ((offcutref02_Below.f a1).bind fun t432 => ((offcutref02_size.f a1).bind fun t433 => ((offcutref02_size.f a0).bind fun t434 => ((offcutref01_Sub.f k t433 t434).bind fun t435 => ((offcutref02_Made.f t432 t435).bind fun t436 => (some t436)))))) else ((offcutref02_Below.f a0).bind fun t437 => ((offcutref02_size.f a0).bind fun t438 => ((offcutref02_size.f a1).bind fun t439 => ((offcutref01_Sub.f k t438 t439).bind fun t440 => ((offcutref02_Made.f t437 t440).bind fun t441 => (some t441)))))))))))) = some r := H
  have A3 := Aside0.mk A30
  clear A30
  replace H := Option.bind_eq_some_iff.mp H
  obtain ⟨t423, A40, H⟩ := H
  replace H : (if (t422 == t423) = true then ((offcutref02_Below.f a0).bind fun t424 => ((offcutref02_size.f a0).bind fun t425 => ((offcutref02_size.f a1).bind fun t426 => ((offcutref01_Add.f k t425 t426).bind fun t427 => ((offcutref02_Made.f t424 t427).bind fun t428 => (some t428)))))) else ((offcutref02_size.f a0).bind fun t429 => ((offcutref02_size.f a1).bind fun t430 => ((offcutref01_Less.f t429 t430).bind fun t431 => (if t431 = true then ((offcutref02_Below.f a1).bind fun t432 => ((offcutref02_size.f a1).bind fun t433 => ((offcutref02_size.f a0).bind fun t434 => ((offcutref01_Sub.f k t433 t434).bind fun t435 => ((offcutref02_Made.f t432 t435).bind fun t436 => (some t436)))))) else ((offcutref02_Below.f a0).bind fun t437 => ((offcutref02_size.f a0).bind fun t438 => ((offcutref02_size.f a1).bind fun t439 => ((offcutref01_Sub.f k t438 t439).bind fun t440 => ((offcutref02_Made.f t437 t440).bind fun t441 => (some t441))))))))))) = some r := H
  have A4 := Aside0.mk A40
  clear A40
  by_cases c5 : (t422 == t423) = true
  · rw [if_pos c5] at H
    have c5b0 : (t422 == t423) = true := c5
    (try (have c5b1 : decide (t422 = t423) = true := by simpa using c5))
    (try (have c5b2 : (t422 == t423) = true := by simpa using c5))
    clear c5
    replace H := Option.bind_eq_some_iff.mp H
    obtain ⟨t424, A60, H⟩ := H
    replace H : ((offcutref02_size.f a0).bind fun t425 => ((offcutref02_size.f a1).bind fun t426 => ((offcutref01_Add.f k t425 t426).bind fun t427 => ((offcutref02_Made.f t424 t427).bind fun t428 => (some t428))))) = some r := H
    have A6 := Aside0.mk A60
    clear A60
    replace H := Option.bind_eq_some_iff.mp H
    obtain ⟨t425, A70, H⟩ := H
    replace H : ((offcutref02_size.f a1).bind fun t426 => ((offcutref01_Add.f k t425 t426).bind fun t427 => ((offcutref02_Made.f t424 t427).bind fun t428 => (some t428)))) = some r := H
    have A7 := Aside0.mk A70
    clear A70
    replace H := Option.bind_eq_some_iff.mp H
    obtain ⟨t426, A80, H⟩ := H
    replace H : ((offcutref01_Add.f k t425 t426).bind fun t427 => ((offcutref02_Made.f t424 t427).bind fun t428 => (some t428))) = some r := H
    have A8 := Aside0.mk A80
    clear A80
    replace H := Option.bind_eq_some_iff.mp H
    obtain ⟨t427, A90, H⟩ := H
    replace H : ((offcutref02_Made.f t424 t427).bind fun t428 => (some t428)) = some r := H
    have A9 := Aside0.mk A90
    clear A90
    replace H := Option.bind_eq_some_iff.mp H
    obtain ⟨t428, A100, H⟩ := H
    replace H : (some t428) = some r := H
    have A10 := Aside0.mk A100
    clear A100
    obtain rfl := Option.some.inj H
    go_enter Try.func22, Try.ntmps22
    go_wp2_with (first | ((with_reducible refine gate_callee (f := 29) rfl ?_); refine goesL_ (some 6) rfl rfl Try.func29 (by kernel_rfl) rfl #[.string a0] rfl (by (try simp only [List.map_toArray, List.map_cons, List.map_nil]); first | done | rfl | (simp only [List.length_drop, List.length_take]; rfl)) ?_; (with_reducible refine (offcutref02_Below.calls a0 t422 _ A3.out).mono ?_); rintro e w' ⟨rfl, ⟨nd, rfl⟩⟩; refine ⟨_, rfl, ?_⟩) | ((with_reducible refine gate_callee (f := 29) rfl ?_); refine goesL_ (some 8) rfl rfl Try.func29 (by kernel_rfl) rfl #[.string a1] rfl (by (try simp only [List.map_toArray, List.map_cons, List.map_nil]); first | done | rfl | (simp only [List.length_drop, List.length_take]; rfl)) ?_; (with_reducible refine (offcutref02_Below.calls a1 t423 _ A4.out).mono ?_); rintro e w' ⟨rfl, ⟨nd, rfl⟩⟩; refine ⟨_, rfl, ?_⟩) | ((with_reducible refine gate_callee (f := 29) rfl ?_); refine goesL_ (some 11) rfl rfl Try.func29 (by kernel_rfl) rfl #[.string a0] rfl (by (try simp only [List.map_toArray, List.map_cons, List.map_nil]); first | done | rfl | (simp only [List.length_drop, List.length_take]; rfl)) ?_; (with_reducible refine (offcutref02_Below.calls a0 t424 _ A6.out).mono ?_); rintro e w' ⟨rfl, ⟨nd, rfl⟩⟩; refine ⟨_, rfl, ?_⟩) | ((with_reducible refine gate_callee (f := 75) rfl ?_); refine goesL_ (some 13) rfl rfl Try.func75 (by kernel_rfl) rfl #[.string a0] rfl (by (try simp only [List.map_toArray, List.map_cons, List.map_nil]); first | done | rfl | (simp only [List.length_drop, List.length_take]; rfl)) ?_; (with_reducible refine (offcutref02_size.calls a0 t425 _ A7.out).mono ?_); rintro e w' ⟨rfl, ⟨nd, rfl⟩⟩; refine ⟨_, rfl, ?_⟩) | ((with_reducible refine gate_callee (f := 75) rfl ?_); refine goesL_ (some 15) rfl rfl Try.func75 (by kernel_rfl) rfl #[.string a1] rfl (by (try simp only [List.map_toArray, List.map_cons, List.map_nil]); first | done | rfl | (simp only [List.length_drop, List.length_take]; rfl)) ?_; (with_reducible refine (offcutref02_size.calls a1 t426 _ A8.out).mono ?_); rintro e w' ⟨rfl, ⟨nd, rfl⟩⟩; refine ⟨_, rfl, ?_⟩) | ((with_reducible refine gate_callee (f := 74) rfl ?_); refine goesL_ (some 16) rfl rfl Try.func74 (by kernel_rfl) rfl #[.string t425, .string t426] rfl (by (try simp only [List.map_toArray, List.map_cons, List.map_nil]); first | done | rfl | (simp only [List.length_drop, List.length_take]; rfl)) ?_; (with_reducible refine (offcutref01_Add.calls k t425 t426 t427 _ A9.out).mono ?_); rintro e w' ⟨rfl, ⟨nd, rfl⟩⟩; refine ⟨_, rfl, ?_⟩) | ((with_reducible refine gate_callee (f := 42) rfl ?_); refine goesL_ (some 17) rfl rfl Try.func42 (by kernel_rfl) rfl #[.bool t424, .string t427] rfl (by (try simp only [List.map_toArray, List.map_cons, List.map_nil]); first | done | rfl | (simp only [List.length_drop, List.length_take]; rfl)) ?_; (with_reducible refine (offcutref02_Made.calls t424 t427 t428 _ A10.out).mono ?_); rintro e w' ⟨rfl, ⟨nd, rfl⟩⟩; refine ⟨_, rfl, ?_⟩))
    go_ret
    exact ⟨by first | rfl | (simp; done) | (simp [*]; done), by repeat (first | exact Drawn0.refl _ | apply Drawn0.step)⟩
  · rw [if_neg c5] at H
    have c5b0 : (t422 == t423) = false := by simpa using c5
    (try (have c5b1 : decide (t422 = t423) = false := by simpa using c5))
    (try (have c5b2 : (t422 == t423) = false := by simpa using c5))
    (try (have c5b3 : ¬ (t422 = t423) := by simpa using c5))
    clear c5
    replace H := Option.bind_eq_some_iff.mp H
    obtain ⟨t429, A110, H⟩ := H
    replace H : ((offcutref02_size.f a1).bind fun t430 => ((offcutref01_Less.f t429 t430).bind fun t431 => (if t431 = true then ((offcutref02_Below.f a1).bind fun t432 => ((offcutref02_size.f a1).bind fun t433 => ((offcutref02_size.f a0).bind fun t434 => ((offcutref01_Sub.f k t433 t434).bind fun t435 => ((offcutref02_Made.f t432 t435).bind fun t436 => (some t436)))))) else ((offcutref02_Below.f a0).bind fun t437 => ((offcutref02_size.f a0).bind fun t438 => ((offcutref02_size.f a1).bind fun t439 => ((offcutref01_Sub.f k t438 t439).bind fun t440 => ((offcutref02_Made.f t437 t440).bind fun t441 => (some t441))))))))) = some r := H
    have A11 := Aside0.mk A110
    clear A110
    replace H := Option.bind_eq_some_iff.mp H
    obtain ⟨t430, A120, H⟩ := H
    replace H : ((offcutref01_Less.f t429 t430).bind fun t431 => (if t431 = true then ((offcutref02_Below.f a1).bind fun t432 => ((offcutref02_size.f a1).bind fun t433 => ((offcutref02_size.f a0).bind fun t434 => ((offcutref01_Sub.f k t433 t434).bind fun t435 => ((offcutref02_Made.f t432 t435).bind fun t436 => (some t436)))))) else ((offcutref02_Below.f a0).bind fun t437 => ((offcutref02_size.f a0).bind fun t438 => ((offcutref02_size.f a1).bind fun t439 => ((offcutref01_Sub.f k t438 t439).bind fun t440 => ((offcutref02_Made.f t437 t440).bind fun t441 => (some t441)))))))) = some r := H
    have A12 := Aside0.mk A120
    clear A120
    replace H := Option.bind_eq_some_iff.mp H
    obtain ⟨t431, A130, H⟩ := H
    replace H : (if t431 = true then ((offcutref02_Below.f a1).bind fun t432 => ((offcutref02_size.f a1).bind fun t433 => ((offcutref02_size.f a0).bind fun t434 => ((offcutref01_Sub.f k t433 t434).bind fun t435 => ((offcutref02_Made.f t432 t435).bind fun t436 => (some t436)))))) else ((offcutref02_Below.f a0).bind fun t437 => ((offcutref02_size.f a0).bind fun t438 => ((offcutref02_size.f a1).bind fun t439 => ((offcutref01_Sub.f k t438 t439).bind fun t440 => ((offcutref02_Made.f t437 t440).bind fun t441 => (some t441))))))) = some r := H
    have A13 := Aside0.mk A130
    clear A130
    by_cases c14 : t431 = true
    · subst c14
      have H1 : ((offcutref02_Below.f a1).bind fun t432 => ((offcutref02_size.f a1).bind fun t433 => ((offcutref02_size.f a0).bind fun t434 => ((offcutref01_Sub.f k t433 t434).bind fun t435 => ((offcutref02_Made.f t432 t435).bind fun t436 => (some t436)))))) = some r := by rw [if_pos rfl] at H; exact H
      clear H
      have H := H1
      clear H1
      replace H := Option.bind_eq_some_iff.mp H
      obtain ⟨t432, A150, H⟩ := H
      replace H : ((offcutref02_size.f a1).bind fun t433 => ((offcutref02_size.f a0).bind fun t434 => ((offcutref01_Sub.f k t433 t434).bind fun t435 => ((offcutref02_Made.f t432 t435).bind fun t436 => (some t436))))) = some r := H
      have A15 := Aside0.mk A150
      clear A150
      replace H := Option.bind_eq_some_iff.mp H
      obtain ⟨t433, A160, H⟩ := H
      replace H : ((offcutref02_size.f a0).bind fun t434 => ((offcutref01_Sub.f k t433 t434).bind fun t435 => ((offcutref02_Made.f t432 t435).bind fun t436 => (some t436)))) = some r := H
      have A16 := Aside0.mk A160
      clear A160
      replace H := Option.bind_eq_some_iff.mp H
      obtain ⟨t434, A170, H⟩ := H
      replace H : ((offcutref01_Sub.f k t433 t434).bind fun t435 => ((offcutref02_Made.f t432 t435).bind fun t436 => (some t436))) = some r := H
      have A17 := Aside0.mk A170
      clear A170
      replace H := Option.bind_eq_some_iff.mp H
      obtain ⟨t435, A180, H⟩ := H
      replace H : ((offcutref02_Made.f t432 t435).bind fun t436 => (some t436)) = some r := H
      have A18 := Aside0.mk A180
      clear A180
      replace H := Option.bind_eq_some_iff.mp H
      obtain ⟨t436, A190, H⟩ := H
      replace H : (some t436) = some r := H
      have A19 := Aside0.mk A190
      clear A190
      obtain rfl := Option.some.inj H
      go_enter Try.func22, Try.ntmps22
      go_wp2_with (first | ((with_reducible refine gate_callee (f := 29) rfl ?_); refine goesL_ (some 6) rfl rfl Try.func29 (by kernel_rfl) rfl #[.string a0] rfl (by (try simp only [List.map_toArray, List.map_cons, List.map_nil]); first | done | rfl | (simp only [List.length_drop, List.length_take]; rfl)) ?_; (with_reducible refine (offcutref02_Below.calls a0 t422 _ A3.out).mono ?_); rintro e w' ⟨rfl, ⟨nd, rfl⟩⟩; refine ⟨_, rfl, ?_⟩) | ((with_reducible refine gate_callee (f := 29) rfl ?_); refine goesL_ (some 8) rfl rfl Try.func29 (by kernel_rfl) rfl #[.string a1] rfl (by (try simp only [List.map_toArray, List.map_cons, List.map_nil]); first | done | rfl | (simp only [List.length_drop, List.length_take]; rfl)) ?_; (with_reducible refine (offcutref02_Below.calls a1 t423 _ A4.out).mono ?_); rintro e w' ⟨rfl, ⟨nd, rfl⟩⟩; refine ⟨_, rfl, ?_⟩) | ((with_reducible refine gate_callee (f := 75) rfl ?_); refine goesL_ (some 19) rfl rfl Try.func75 (by kernel_rfl) rfl #[.string a0] rfl (by (try simp only [List.map_toArray, List.map_cons, List.map_nil]); first | done | rfl | (simp only [List.length_drop, List.length_take]; rfl)) ?_; (with_reducible refine (offcutref02_size.calls a0 t429 _ A11.out).mono ?_); rintro e w' ⟨rfl, ⟨nd, rfl⟩⟩; refine ⟨_, rfl, ?_⟩) | ((with_reducible refine gate_callee (f := 75) rfl ?_); refine goesL_ (some 21) rfl rfl Try.func75 (by kernel_rfl) rfl #[.string a1] rfl (by (try simp only [List.map_toArray, List.map_cons, List.map_nil]); first | done | rfl | (simp only [List.length_drop, List.length_take]; rfl)) ?_; (with_reducible refine (offcutref02_size.calls a1 t430 _ A12.out).mono ?_); rintro e w' ⟨rfl, ⟨nd, rfl⟩⟩; refine ⟨_, rfl, ?_⟩) | ((with_reducible refine gate_callee (f := 76) rfl ?_); refine goesL_ (some 22) rfl rfl Try.func76 (by kernel_rfl) rfl #[.string t429, .string t430] rfl (by (try simp only [List.map_toArray, List.map_cons, List.map_nil]); first | done | rfl | (simp only [List.length_drop, List.length_take]; rfl)) ?_; (with_reducible refine (offcutref01_Less.calls t429 t430 true _ A13.out).mono ?_); rintro e w' ⟨rfl, ⟨nd, rfl⟩⟩; refine ⟨_, rfl, ?_⟩) | ((with_reducible refine gate_callee (f := 29) rfl ?_); refine goesL_ (some 24) rfl rfl Try.func29 (by kernel_rfl) rfl #[.string a1] rfl (by (try simp only [List.map_toArray, List.map_cons, List.map_nil]); first | done | rfl | (simp only [List.length_drop, List.length_take]; rfl)) ?_; (with_reducible refine (offcutref02_Below.calls a1 t432 _ A15.out).mono ?_); rintro e w' ⟨rfl, ⟨nd, rfl⟩⟩; refine ⟨_, rfl, ?_⟩) | ((with_reducible refine gate_callee (f := 75) rfl ?_); refine goesL_ (some 26) rfl rfl Try.func75 (by kernel_rfl) rfl #[.string a1] rfl (by (try simp only [List.map_toArray, List.map_cons, List.map_nil]); first | done | rfl | (simp only [List.length_drop, List.length_take]; rfl)) ?_; (with_reducible refine (offcutref02_size.calls a1 t433 _ A16.out).mono ?_); rintro e w' ⟨rfl, ⟨nd, rfl⟩⟩; refine ⟨_, rfl, ?_⟩) | ((with_reducible refine gate_callee (f := 75) rfl ?_); refine goesL_ (some 28) rfl rfl Try.func75 (by kernel_rfl) rfl #[.string a0] rfl (by (try simp only [List.map_toArray, List.map_cons, List.map_nil]); first | done | rfl | (simp only [List.length_drop, List.length_take]; rfl)) ?_; (with_reducible refine (offcutref02_size.calls a0 t434 _ A17.out).mono ?_); rintro e w' ⟨rfl, ⟨nd, rfl⟩⟩; refine ⟨_, rfl, ?_⟩) | ((with_reducible refine gate_callee (f := 77) rfl ?_); refine goesL_ (some 29) rfl rfl Try.func77 (by kernel_rfl) rfl #[.string t433, .string t434] rfl (by (try simp only [List.map_toArray, List.map_cons, List.map_nil]); first | done | rfl | (simp only [List.length_drop, List.length_take]; rfl)) ?_; (with_reducible refine (offcutref01_Sub.calls k t433 t434 t435 _ A18.out).mono ?_); rintro e w' ⟨rfl, ⟨nd, rfl⟩⟩; refine ⟨_, rfl, ?_⟩) | ((with_reducible refine gate_callee (f := 42) rfl ?_); refine goesL_ (some 30) rfl rfl Try.func42 (by kernel_rfl) rfl #[.bool t432, .string t435] rfl (by (try simp only [List.map_toArray, List.map_cons, List.map_nil]); first | done | rfl | (simp only [List.length_drop, List.length_take]; rfl)) ?_; (with_reducible refine (offcutref02_Made.calls t432 t435 t436 _ A19.out).mono ?_); rintro e w' ⟨rfl, ⟨nd, rfl⟩⟩; refine ⟨_, rfl, ?_⟩))
      go_ret
      exact ⟨by first | rfl | (simp; done) | (simp [*]; done), by repeat (first | exact Drawn0.refl _ | apply Drawn0.step)⟩
    · replace c14 := Bool.eq_false_iff.mpr c14
      subst c14
      have H1 : ((offcutref02_Below.f a0).bind fun t437 => ((offcutref02_size.f a0).bind fun t438 => ((offcutref02_size.f a1).bind fun t439 => ((offcutref01_Sub.f k t438 t439).bind fun t440 => ((offcutref02_Made.f t437 t440).bind fun t441 => (some t441)))))) = some r := by rw [if_neg (show ¬ (false = true) by decide)] at H; exact H
      clear H
      have H := H1
      clear H1
      replace H := Option.bind_eq_some_iff.mp H
      obtain ⟨t437, A200, H⟩ := H
      replace H : ((offcutref02_size.f a0).bind fun t438 => ((offcutref02_size.f a1).bind fun t439 => ((offcutref01_Sub.f k t438 t439).bind fun t440 => ((offcutref02_Made.f t437 t440).bind fun t441 => (some t441))))) = some r := H
      have A20 := Aside0.mk A200
      clear A200
      replace H := Option.bind_eq_some_iff.mp H
      obtain ⟨t438, A210, H⟩ := H
      replace H : ((offcutref02_size.f a1).bind fun t439 => ((offcutref01_Sub.f k t438 t439).bind fun t440 => ((offcutref02_Made.f t437 t440).bind fun t441 => (some t441)))) = some r := H
      have A21 := Aside0.mk A210
      clear A210
      replace H := Option.bind_eq_some_iff.mp H
      obtain ⟨t439, A220, H⟩ := H
      replace H : ((offcutref01_Sub.f k t438 t439).bind fun t440 => ((offcutref02_Made.f t437 t440).bind fun t441 => (some t441))) = some r := H
      have A22 := Aside0.mk A220
      clear A220
      replace H := Option.bind_eq_some_iff.mp H
      obtain ⟨t440, A230, H⟩ := H
      replace H : ((offcutref02_Made.f t437 t440).bind fun t441 => (some t441)) = some r := H
      have A23 := Aside0.mk A230
      clear A230
      replace H := Option.bind_eq_some_iff.mp H
      obtain ⟨t441, A240, H⟩ := H
      replace H : (some t441) = some r := H
      have A24 := Aside0.mk A240
      clear A240
      obtain rfl := Option.some.inj H
      go_enter Try.func22, Try.ntmps22
      go_wp2_with (first | ((with_reducible refine gate_callee (f := 29) rfl ?_); refine goesL_ (some 6) rfl rfl Try.func29 (by kernel_rfl) rfl #[.string a0] rfl (by (try simp only [List.map_toArray, List.map_cons, List.map_nil]); first | done | rfl | (simp only [List.length_drop, List.length_take]; rfl)) ?_; (with_reducible refine (offcutref02_Below.calls a0 t422 _ A3.out).mono ?_); rintro e w' ⟨rfl, ⟨nd, rfl⟩⟩; refine ⟨_, rfl, ?_⟩) | ((with_reducible refine gate_callee (f := 29) rfl ?_); refine goesL_ (some 8) rfl rfl Try.func29 (by kernel_rfl) rfl #[.string a1] rfl (by (try simp only [List.map_toArray, List.map_cons, List.map_nil]); first | done | rfl | (simp only [List.length_drop, List.length_take]; rfl)) ?_; (with_reducible refine (offcutref02_Below.calls a1 t423 _ A4.out).mono ?_); rintro e w' ⟨rfl, ⟨nd, rfl⟩⟩; refine ⟨_, rfl, ?_⟩) | ((with_reducible refine gate_callee (f := 75) rfl ?_); refine goesL_ (some 19) rfl rfl Try.func75 (by kernel_rfl) rfl #[.string a0] rfl (by (try simp only [List.map_toArray, List.map_cons, List.map_nil]); first | done | rfl | (simp only [List.length_drop, List.length_take]; rfl)) ?_; (with_reducible refine (offcutref02_size.calls a0 t429 _ A11.out).mono ?_); rintro e w' ⟨rfl, ⟨nd, rfl⟩⟩; refine ⟨_, rfl, ?_⟩) | ((with_reducible refine gate_callee (f := 75) rfl ?_); refine goesL_ (some 21) rfl rfl Try.func75 (by kernel_rfl) rfl #[.string a1] rfl (by (try simp only [List.map_toArray, List.map_cons, List.map_nil]); first | done | rfl | (simp only [List.length_drop, List.length_take]; rfl)) ?_; (with_reducible refine (offcutref02_size.calls a1 t430 _ A12.out).mono ?_); rintro e w' ⟨rfl, ⟨nd, rfl⟩⟩; refine ⟨_, rfl, ?_⟩) | ((with_reducible refine gate_callee (f := 76) rfl ?_); refine goesL_ (some 22) rfl rfl Try.func76 (by kernel_rfl) rfl #[.string t429, .string t430] rfl (by (try simp only [List.map_toArray, List.map_cons, List.map_nil]); first | done | rfl | (simp only [List.length_drop, List.length_take]; rfl)) ?_; (with_reducible refine (offcutref01_Less.calls t429 t430 false _ A13.out).mono ?_); rintro e w' ⟨rfl, ⟨nd, rfl⟩⟩; refine ⟨_, rfl, ?_⟩) | ((with_reducible refine gate_callee (f := 29) rfl ?_); refine goesL_ (some 32) rfl rfl Try.func29 (by kernel_rfl) rfl #[.string a0] rfl (by (try simp only [List.map_toArray, List.map_cons, List.map_nil]); first | done | rfl | (simp only [List.length_drop, List.length_take]; rfl)) ?_; (with_reducible refine (offcutref02_Below.calls a0 t437 _ A20.out).mono ?_); rintro e w' ⟨rfl, ⟨nd, rfl⟩⟩; refine ⟨_, rfl, ?_⟩) | ((with_reducible refine gate_callee (f := 75) rfl ?_); refine goesL_ (some 34) rfl rfl Try.func75 (by kernel_rfl) rfl #[.string a0] rfl (by (try simp only [List.map_toArray, List.map_cons, List.map_nil]); first | done | rfl | (simp only [List.length_drop, List.length_take]; rfl)) ?_; (with_reducible refine (offcutref02_size.calls a0 t438 _ A21.out).mono ?_); rintro e w' ⟨rfl, ⟨nd, rfl⟩⟩; refine ⟨_, rfl, ?_⟩) | ((with_reducible refine gate_callee (f := 75) rfl ?_); refine goesL_ (some 36) rfl rfl Try.func75 (by kernel_rfl) rfl #[.string a1] rfl (by (try simp only [List.map_toArray, List.map_cons, List.map_nil]); first | done | rfl | (simp only [List.length_drop, List.length_take]; rfl)) ?_; (with_reducible refine (offcutref02_size.calls a1 t439 _ A22.out).mono ?_); rintro e w' ⟨rfl, ⟨nd, rfl⟩⟩; refine ⟨_, rfl, ?_⟩) | ((with_reducible refine gate_callee (f := 77) rfl ?_); refine goesL_ (some 37) rfl rfl Try.func77 (by kernel_rfl) rfl #[.string t438, .string t439] rfl (by (try simp only [List.map_toArray, List.map_cons, List.map_nil]); first | done | rfl | (simp only [List.length_drop, List.length_take]; rfl)) ?_; (with_reducible refine (offcutref01_Sub.calls k t438 t439 t440 _ A23.out).mono ?_); rintro e w' ⟨rfl, ⟨nd, rfl⟩⟩; refine ⟨_, rfl, ?_⟩) | ((with_reducible refine gate_callee (f := 42) rfl ?_); refine goesL_ (some 38) rfl rfl Try.func42 (by kernel_rfl) rfl #[.bool t437, .string t440] rfl (by (try simp only [List.map_toArray, List.map_cons, List.map_nil]); first | done | rfl | (simp only [List.length_drop, List.length_take]; rfl)) ?_; (with_reducible refine (offcutref02_Made.calls t437 t440 t441 _ A24.out).mono ?_); rintro e w' ⟨rfl, ⟨nd, rfl⟩⟩; refine ⟨_, rfl, ?_⟩))
      go_ret
      exact ⟨by first | rfl | (simp; done) | (simp [*]; done), by repeat (first | exact Drawn0.refl _ | apply Drawn0.step)⟩

theorem offcutref02_Add.ev {a b : Int} {K : Nat} (ha : a.natAbs < 2 ^ (32 * K)) (hb : b.natAbs < 2 ^ (32 * K)) (hK : K < 1000000) : Ev (fun k => offcutref02_Add.f k (Zn.tz a) (Zn.tz b)) (Zn.tz (a + b)) := by
  have la := Dec.dc_len32 (n := a.natAbs) (k := K + 1) (by omega) (Num.le_pow ha (by omega))
  have lb := Dec.dc_len32 (n := b.natAbs) (k := K + 1) (by omega) (Num.le_pow hb (by omega))
  have ls := Dec.dc_len32 (n := a.natAbs + b.natAbs) (k := K + 1) (by omega) (Num.add_lt ha hb)
  have A := offcutref01_Add.ev (Dec.Ds_dc a.natAbs) (Dec.Ds_dc b.natAbs) (by omega) (by omega)
  rw [Dec.dv_dc, Dec.dv_dc] at A
  have Ba := offcutref02_Below.sem a
  have Bb := offcutref02_Below.sem b
  have Sa := offcutref02_size.sem a
  have Sb := offcutref02_size.sem b
  have L := offcutref01_Less.sem a.natAbs b.natAbs
  unfold offcutref02_Add.f
  refine Dec.val (fun _ => Ba) (Dec.val (fun _ => Bb) ?_)
  by_cases h : a < 0 ↔ b < 0
  · have M := offcutref02_Made.sem (decide (a < 0)) (a.natAbs + b.natAbs) (by omega)
    rw [Zn.add_same h] at M
    exact Dec.yes (by rw [beq_iff_eq]; exact decide_eq_decide.2 h) (Dec.val (fun _ => Ba) (Dec.val (fun _ => Sa) (Dec.val (fun _ => Sb) (Ev.bind A (Dec.val (fun _ => M) (Ev.now _))))))
  · refine Dec.no (by rw [beq_iff_eq]; exact fun e => h (decide_eq_decide.1 e)) (Dec.val (fun _ => Sa) (Dec.val (fun _ => Sb) (Dec.val (fun _ => L) ?_)))
    by_cases hl : a.natAbs < b.natAbs
    · have S := offcutref01_Sub.ev_dec (m := b.natAbs) (n := a.natAbs) (by omega) (by omega)
      have ld := Dec.dc_len32 (n := b.natAbs - a.natAbs) (k := K + 1) (by omega) (Num.le_pow (show b.natAbs - a.natAbs < 2 ^ (32 * K) by omega) (by omega))
      have M := offcutref02_Made.sem (decide (b < 0)) (b.natAbs - a.natAbs) (by omega)
      rw [Zn.add_right h hl] at M
      exact Dec.yes (decide_eq_true hl) (Dec.val (fun _ => Bb) (Dec.val (fun _ => Sb) (Dec.val (fun _ => Sa) (Ev.bind S (Dec.val (fun _ => M) (Ev.now _))))))
    · have S := offcutref01_Sub.ev_dec (m := a.natAbs) (n := b.natAbs) (by omega) (by omega)
      have ld := Dec.dc_len32 (n := a.natAbs - b.natAbs) (k := K + 1) (by omega) (Num.le_pow (show a.natAbs - b.natAbs < 2 ^ (32 * K) by omega) (by omega))
      have M := offcutref02_Made.sem (decide (a < 0)) (a.natAbs - b.natAbs) (by omega)
      rw [Zn.add_left h (by omega)] at M
      exact Dec.no (by rw [decide_eq_false hl]; decide) (Dec.val (fun _ => Ba) (Dec.val (fun _ => Sa) (Dec.val (fun _ => Sb) (Ev.bind S (Dec.val (fun _ => M) (Ev.now _))))))

end Go.Proofs.Ytjpkljkkcbaohaa.PR

end
section
namespace Go.Proofs.Ytjpkljkkcbaohaa.PR
open Go.RowKit Go.Proofs.YtjpkljkkcbaohaaW.PrintWords Go.Proofs.YtjpkljkkcbaohaaW.PrintLast Go.Proofs.YtjpkljkkcbaohaaW.PrintMore
attribute [local go_sem] max2_int min2_int max_two min_two max_three min_three max_four min_four   -- for this text's walks alone
set_option linter.unusedVariables false
set_option linter.unusedSimpArgs false

/-! ### offcutref02_Neg: function 24 -/
def offcutref02_Neg.f (a0 : ByteArray) : Option (ByteArray) := (offcutref02_Below.f a0).bind fun t442 => ((offcutref02_size.f a0).bind fun t443 => ((offcutref02_Made.f (!t442) t443).bind fun t444 => (some t444)))
set_option maxHeartbeats 8000000 in
set_option maxRecDepth 100000 in
theorem offcutref02_Neg.calls (a0 : ByteArray) (r : ByteArray) (w : World) (h : offcutref02_Neg.f a0 = some r) :
    Calls Try.prog 24 #[.string a0] w fun e w' => e = .returned (.string r) ∧ Drawn0 w w' := by
  have H : ((offcutref02_Below.f a0).bind fun t442 => ((offcutref02_size.f a0).bind fun t443 => ((offcutref02_Made.f (!t442) t443).bind fun t444 => (some t444)))) = some r := h
  clear h
  replace H := Option.bind_eq_some_iff.mp H
  obtain ⟨t442, A20, H⟩ := H
  replace H : ((offcutref02_size.f a0).bind fun t443 => ((offcutref02_Made.f (!t442) t443).bind fun t444 => (some t444))) = some r := H
  have A2 := Aside0.mk A20
  clear A20
  replace H := Option.bind_eq_some_iff.mp H
  obtain ⟨t443, A30, H⟩ := H
  replace H : ((offcutref02_Made.f (!t442) t443).bind fun t444 => (some t444)) = some r := H
  have A3 := Aside0.mk A30
  clear A30
  replace H := Option.bind_eq_some_iff.mp H
  obtain ⟨t444, A40, H⟩ := H
  replace H : (some t444) = some r := H
  have A4 := Aside0.mk A40
  clear A40
  obtain rfl := Option.some.inj H
  go_enter Try.func24, Try.ntmps24
  go_wp2_with (first | ((with_reducible refine gate_callee (f := 29) rfl ?_); refine goesL_ (some 4) rfl rfl Try.func29 (by kernel_rfl) rfl #[.string a0] rfl (by (try simp only [List.map_toArray, List.map_cons, List.map_nil]); first | done | rfl | (simp only [List.length_drop, List.length_take]; rfl)) ?_; (with_reducible refine (offcutref02_Below.calls a0 t442 _ A2.out).mono ?_); rintro e w' ⟨rfl, ⟨nd, rfl⟩⟩; refine ⟨_, rfl, ?_⟩) | ((with_reducible refine gate_callee (f := 75) rfl ?_); refine goesL_ (some 7) rfl rfl Try.func75 (by kernel_rfl) rfl #[.string a0] rfl (by (try simp only [List.map_toArray, List.map_cons, List.map_nil]); first | done | rfl | (simp only [List.length_drop, List.length_take]; rfl)) ?_; (with_reducible refine (offcutref02_size.calls a0 t443 _ A3.out).mono ?_); rintro e w' ⟨rfl, ⟨nd, rfl⟩⟩; refine ⟨_, rfl, ?_⟩) | ((with_reducible refine gate_callee (f := 42) rfl ?_); refine goesL_ (some 8) rfl rfl Try.func42 (by kernel_rfl) rfl #[.bool (!t442), .string t443] rfl (by (try simp only [List.map_toArray, List.map_cons, List.map_nil]); first | done | rfl | (simp only [List.length_drop, List.length_take]; rfl)) ?_; (with_reducible refine (offcutref02_Made.calls (!t442) t443 t444 _ A4.out).mono ?_); rintro e w' ⟨rfl, ⟨nd, rfl⟩⟩; refine ⟨_, rfl, ?_⟩))
  go_ret
  exact ⟨by first | rfl | (simp; done) | (simp [*]; done), by repeat (first | exact Drawn0.refl _ | apply Drawn0.step)⟩

theorem offcutref02_Neg.sem (z : Int) (hz : (Dec.dc z.natAbs).length < 9000000000000000000) : offcutref02_Neg.f (Zn.tz z) = some (Zn.tz (-z)) := by
  unfold offcutref02_Neg.f
  rw [offcutref02_Below.sem, Option.bind_some, offcutref02_size.sem, Option.bind_some, offcutref02_Made.sem _ _ hz, Option.bind_some, Zn.zv_not, Zn.zv_self]

end Go.Proofs.Ytjpkljkkcbaohaa.PR

end
section
namespace Go.Proofs.Ytjpkljkkcbaohaa.PR
open Go.RowKit Go.Proofs.YtjpkljkkcbaohaaW.PrintWords Go.Proofs.YtjpkljkkcbaohaaW.PrintLast Go.Proofs.YtjpkljkkcbaohaaW.PrintMore
attribute [local go_sem] max2_int min2_int max_two min_two max_three min_three max_four min_four   -- for this text's walks alone
set_option linter.unusedVariables false
set_option linter.unusedSimpArgs false

/-! ### offcutref02_Mul: function 26 -/
def offcutref02_Mul.f (k : Nat) (a0 : ByteArray) (a1 : ByteArray) : Option (ByteArray) := (offcutref02_Below.f a0).bind fun t445 => ((offcutref02_Below.f a1).bind fun t446 => ((offcutref02_size.f a0).bind fun t447 => ((offcutref02_size.f a1).bind fun t448 => ((offcutref01_Mul.f k t447 t448).bind fun t449 => ((offcutref02_Made.f (t445 != t446) t449).bind fun t450 => (some t450))))))
theorem offcutref02_Mul.mono : ∀ a0 a1 k, LeO (offcutref02_Mul.f k a0 a1) (offcutref02_Mul.f (k + 1) a0 a1) := by
  intro a0 a1 k
  unfold offcutref02_Mul.f
  repeat' first
      | (with_reducible exact offcutref01_Mul.mono _ _ _)
      | (with_reducible exact LeO.refl _)
      | (with_reducible exact LeO.none _)
      | (with_reducible refine LeO.ite ?_ ?_)
      | (with_reducible refine LeO.bind ?_ (fun _ => ?_))
      | exact offcutref01_Mul.mono _ _ _
      | exact LeO.none _
      | refine LeO.ite ?_ ?_
      | refine LeO.bind ?_ (fun _ => ?_)
set_option maxHeartbeats 8000000 in
set_option maxRecDepth 100000 in
theorem offcutref02_Mul.calls (k : Nat) (a0 : ByteArray) (a1 : ByteArray) (r : ByteArray) (w : World) (h : offcutref02_Mul.f k a0 a1 = some r) :
    Calls Try.prog 26 #[.string a0, .string a1] w fun e w' => e = .returned (.string r) ∧ Below w.heap.size w w' := by
  have HB := Aside0.mk (Below.refl w.heap.size w)
  have H : ((offcutref02_Below.f a0).bind fun t445 => ((offcutref02_Below.f a1).bind fun t446 => ((offcutref02_size.f a0).bind fun t447 => ((offcutref02_size.f a1).bind fun t448 => ((offcutref01_Mul.f k t447 t448).bind fun t449 => ((offcutref02_Made.f (t445 != t446) t449).bind fun t450 => (some t450))))))) = some r := h
  clear h
  replace H := Option.bind_eq_some_iff.mp H
  obtain ⟨t445, A30, H⟩ := H
  replace H : ((offcutref02_Below.f a1).bind fun t446 => ((offcutref02_size.f a0).bind fun t447 => ((offcutref02_size.f a1).bind fun t448 => ((offcutref01_Mul.f k t447 t448).bind fun t449 => ((offcutref02_Made.f (t445 != t446) t449).bind fun t450 => (some t450)))))) = some r := H
  have A3 := Aside0.mk A30
  clear A30
  replace H := Option.bind_eq_some_iff.mp H
  obtain ⟨t446, A40, H⟩ := H
  replace H : ((offcutref02_size.f a0).bind fun t447 => ((offcutref02_size.f a1).bind fun t448 => ((offcutref01_Mul.f k t447 t448).bind fun t449 => ((offcutref02_Made.f (t445 != t446) t449).bind fun t450 => (some t450))))) = some r := H
  have A4 := Aside0.mk A40
  clear A40
  replace H := Option.bind_eq_some_iff.mp H
  obtain ⟨t447, A50, H⟩ := H
  replace H : ((offcutref02_size.f a1).bind fun t448 => ((offcutref01_Mul.f k t447 t448).bind fun t449 => ((offcutref02_Made.f (t445 != t446) t449).bind fun t450 => (some t450)))) = some r := H
  have A5 := Aside0.mk A50
  clear A50
  replace H := Option.bind_eq_some_iff.mp H
  obtain ⟨t448, A60, H⟩ := H
  replace H : ((offcutref01_Mul.f k t447 t448).bind fun t449 => ((offcutref02_Made.f (t445 != t446) t449).bind fun t450 => (some t450))) = some r := H
  have A6 := Aside0.mk A60
  clear A60
  replace H := Option.bind_eq_some_iff.mp H
  obtain ⟨t449, A70, H⟩ := H
  replace H : ((offcutref02_Made.f (t445 != t446) t449).bind fun t450 => (some t450)) = some r := H
  have A7 := Aside0.mk A70
  clear A70
  replace H := Option.bind_eq_some_iff.mp H
  obtain ⟨t450, A80, H⟩ := H
  replace H : (some t450) = some r := H
  have A8 := Aside0.mk A80
  clear A80
  obtain rfl := Option.some.inj H
  go_enter Try.func26, Try.ntmps26
  go_wp2_with (first | ((with_reducible refine gate_callee (f := 29) rfl ?_); refine goesL_ (some 6) rfl rfl Try.func29 (by kernel_rfl) rfl #[.string a0] rfl (by (try simp only [List.map_toArray, List.map_cons, List.map_nil]); first | done | rfl | (simp only [List.length_drop, List.length_take]; rfl)) ?_; (with_reducible refine (offcutref02_Below.calls a0 t445 _ A3.out).mono ?_); rintro e w' ⟨rfl, ⟨nd, rfl⟩⟩; refine ⟨_, rfl, ?_⟩) | ((with_reducible refine gate_callee (f := 29) rfl ?_); refine goesL_ (some 8) rfl rfl Try.func29 (by kernel_rfl) rfl #[.string a1] rfl (by (try simp only [List.map_toArray, List.map_cons, List.map_nil]); first | done | rfl | (simp only [List.length_drop, List.length_take]; rfl)) ?_; (with_reducible refine (offcutref02_Below.calls a1 t446 _ A4.out).mono ?_); rintro e w' ⟨rfl, ⟨nd, rfl⟩⟩; refine ⟨_, rfl, ?_⟩) | ((with_reducible refine gate_callee (f := 75) rfl ?_); refine goesL_ (some 11) rfl rfl Try.func75 (by kernel_rfl) rfl #[.string a0] rfl (by (try simp only [List.map_toArray, List.map_cons, List.map_nil]); first | done | rfl | (simp only [List.length_drop, List.length_take]; rfl)) ?_; (with_reducible refine (offcutref02_size.calls a0 t447 _ A5.out).mono ?_); rintro e w' ⟨rfl, ⟨nd, rfl⟩⟩; refine ⟨_, rfl, ?_⟩) | ((with_reducible refine gate_callee (f := 75) rfl ?_); refine goesL_ (some 13) rfl rfl Try.func75 (by kernel_rfl) rfl #[.string a1] rfl (by (try simp only [List.map_toArray, List.map_cons, List.map_nil]); first | done | rfl | (simp only [List.length_drop, List.length_take]; rfl)) ?_; (with_reducible refine (offcutref02_size.calls a1 t448 _ A6.out).mono ?_); rintro e w' ⟨rfl, ⟨nd, rfl⟩⟩; refine ⟨_, rfl, ?_⟩) | ((with_reducible refine gate_callee (f := 79) rfl ?_); refine goesL_ (some 14) rfl rfl Try.func79 (by kernel_rfl) rfl #[.string t447, .string t448] rfl (by (try simp only [List.map_toArray, List.map_cons, List.map_nil]); first | done | rfl | (simp only [List.length_drop, List.length_take]; rfl)) ?_; (with_reducible refine (offcutref01_Mul.calls k t447 t448 t449 _ A7.out).mono ?_); rintro e w9 ⟨rfl, hb⟩; refine ⟨_, rfl, ?_⟩; have n0_ := Aside0.mk (below_step (by repeat (first | (with_reducible first | exact HB.out | apply below_alloc | apply pw_below_drewN | apply below_drew1) | exact HB.out)) hb); clear HB; have HB := n0_; clear n0_; (try clear hb)) | ((with_reducible refine gate_callee (f := 42) rfl ?_); refine goesL_ (some 15) rfl rfl Try.func42 (by kernel_rfl) rfl #[.bool (t445 != t446), .string t449] rfl (by (try simp only [List.map_toArray, List.map_cons, List.map_nil]); first | done | rfl | (simp only [List.length_drop, List.length_take]; rfl)) ?_; (with_reducible refine (offcutref02_Made.calls (t445 != t446) t449 t450 _ A8.out).mono ?_); rintro e w' ⟨rfl, ⟨nd, rfl⟩⟩; refine ⟨_, rfl, ?_⟩))
  go_ret
  exact ⟨by first | rfl | (simp [errW_none, errW_some] <;> rfl) | (simp [*, errW_none, errW_some] <;> rfl), by repeat (first | (with_reducible first | exact HB.out | apply below_alloc | apply pw_below_drewN | apply below_drew1) | exact HB.out)⟩

theorem offcutref02_Mul.ev {a b : Int} {K J : Nat} (ha : a.natAbs < 2 ^ (32 * K)) (hb : b.natAbs < 2 ^ (32 * J)) (hK : K + J < 1000000) : Ev (fun k => offcutref02_Mul.f k (Zn.tz a) (Zn.tz b)) (Zn.tz (a * b)) := by
  have la := Dec.dc_len32 (n := a.natAbs) (k := K + 1) (by omega) (Num.le_pow ha (by omega))
  have lb := Dec.dc_len32 (n := b.natAbs) (k := J + 1) (by omega) (Num.le_pow hb (by omega))
  have ls := Dec.dc_len32 (n := a.natAbs * b.natAbs) (k := K + J + 1) (by omega) (Num.le_pow (Num.mul_lt ha hb) (by omega))
  have M := offcutref01_Mul.ev (Dec.Ds_dc a.natAbs) (Dec.Ds_dc b.natAbs) (by omega) (by omega)
  rw [Dec.dv_dc, Dec.dv_dc] at M
  have d : Zn.zv (decide (a < 0) != decide (b < 0)) (a.natAbs * b.natAbs) = a * b := by
    by_cases h0 : a.natAbs * b.natAbs = 0
    · rw [h0, Zn.zv_zero]
      rw [← Int.natAbs_mul] at h0
      omega
    · have a0 : a.natAbs ≠ 0 := fun e => h0 (by rw [e, Nat.zero_mul])
      have b0 : b.natAbs ≠ 0 := fun e => h0 (by rw [e, Nat.mul_zero])
      have e : (decide (a < 0) != decide (b < 0)) = decide (a * b < 0) := by
        by_cases ha0 : a < 0
        · by_cases hb0 : b < 0
          · have := Int.mul_pos_of_neg_of_neg ha0 hb0
            rw [decide_eq_true ha0, decide_eq_true hb0, decide_eq_false (by omega)]
            rfl
          · have := Int.mul_neg_of_neg_of_pos ha0 (show 0 < b by omega)
            rw [decide_eq_true ha0, decide_eq_false hb0, decide_eq_true this]
            rfl
        · by_cases hb0 : b < 0
          · have := Int.mul_neg_of_pos_of_neg (show 0 < a by omega) hb0
            rw [decide_eq_false ha0, decide_eq_true hb0, decide_eq_true this]
            rfl
          · have := Int.mul_pos (show 0 < a by omega) (show 0 < b by omega)
            rw [decide_eq_false ha0, decide_eq_false hb0, decide_eq_false (by omega)]
            rfl
      rw [e, Zn.mul_sign]
  have R := offcutref02_Made.sem (decide (a < 0) != decide (b < 0)) (a.natAbs * b.natAbs) (by omega)
  rw [d] at R
  unfold offcutref02_Mul.f
  exact Dec.val (fun _ => offcutref02_Below.sem a) (Dec.val (fun _ => offcutref02_Below.sem b) (Dec.val (fun _ => offcutref02_size.sem a) (Dec.val (fun _ => offcutref02_size.sem b) (Ev.bind M (Dec.val (fun _ => R) (Ev.now _))))))

end Go.Proofs.Ytjpkljkkcbaohaa.PR

end
