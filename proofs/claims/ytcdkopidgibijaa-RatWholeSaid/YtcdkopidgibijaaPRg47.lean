/- Several functions' printed texts in one file. -/
import Derived.Test.YtcdkopidgibijaaInt
import Derived.Test.YtcdkopidgibijaaPRg0
import Derived.Test.YtcdkopidgibijaaDec
import Derived.Test.YtcdkopidgibijaaShort
import Derived.Test.YtcdkopidgibijaaRat
import Derived.Test.YtcdkopidgibijaaNum
import Derived.Test.YtcdkopidgibijaaPRx1
import Derived.Test.YtcdkopidgibijaaPRg32
namespace Go.Proofs.Ytcdkopidgibijaa.PR
open Go.RowKit Go.Proofs.YtcdkopidgibijaaW.PrintWords Go.Proofs.YtcdkopidgibijaaW.PrintLast Go.Proofs.YtcdkopidgibijaaW.PrintMore
attribute [local go_sem] max2_int min2_int max_two min_two max_three min_three max_four min_four   -- for this text's walks alone
set_option linter.unusedVariables false
set_option linter.unusedSimpArgs false
/-! ### offcutref02_Made: function 48 -/
def offcutref02_Made.f (a0 : Bool) (a1 : ByteArray) : Option (ByteArray) := if a0 = true then (if a1.toList = ([48] : List UInt8) then (some a1) else (if 1 + a1.size ≤ 9223372036854775807 then (some ((⟨#[45]⟩ : ByteArray) ++ a1)) else (none))) else (some a1)
set_option maxHeartbeats 8000000 in
set_option maxRecDepth 100000 in
theorem offcutref02_Made.calls (a0 : Bool) (a1 : ByteArray) (r : ByteArray) (w : World) (h : offcutref02_Made.f a0 a1 = some r) :
  Calls Try.prog 48 #[.bool a0, .string a1] w fun e w' => e = .returned (.string r) ∧ Drawn0 w w' := by
 have H : (if a0 = true then (if a1.toList = ([48] : List UInt8) then (some a1) else (if 1 + a1.size ≤ 9223372036854775807 then (some ((⟨#[45]⟩ : ByteArray) ++ a1)) else (none))) else (some a1)) = some r := h
 clear h
 by_cases c3 : a0 = true
 ·subst c3
  have H1 : (if a1.toList = ([48] : List UInt8) then (some a1) else (if 1 + a1.size ≤ 9223372036854775807 then (some ((⟨#[45]⟩ : ByteArray) ++ a1)) else (none))) = some r := by rw [if_pos rfl] at H; exact H
  clear H
  have H := H1
  clear H1
  by_cases c4 : a1.toList = ([48] : List UInt8)
  ·rw [if_pos c4] at H
   have c4b0 : (a1.toList == ([48] : List UInt8)) = true := beq_iff_eq.mpr c4
   have c4b1 : (a1.toList != ([48] : List UInt8)) = false := bne_eq_false_iff_eq.mpr c4
   clear c4
   obtain rfl := Option.some.inj H
   go_enter Try.func48, Try.ntmps48
   go_wp2
   go_ret
   exact ⟨by first | rfl | (simp; done) | (simp [*]; done), by repeat (first | exact Drawn0.refl _ | apply Drawn0.step)⟩
  ·rw [if_neg c4] at H
   have c4b0 : (a1.toList == ([48] : List UInt8)) = false := beq_eq_false_iff_ne.mpr c4
   have c4b1 : (a1.toList != ([48] : List UInt8)) = true := bne_iff_ne.mpr c4
   by_cases c5 : 1 + a1.size ≤ 9223372036854775807
   ·rw [if_pos c5] at H
    have c5b0 := eq_true c5
    have c5b1 : decide (1 + a1.size ≤ 9223372036854775807) = true := decide_eq_true c5
    try have c5b2 : (9223372036854775807 < 1 + a1.size) = False := eq_false (Nat.not_lt.2 c5)
    obtain rfl := Option.some.inj H
    go_enter Try.func48, Try.ntmps48
    go_wp2
    go_ret
    exact ⟨by first | rfl | (simp; done) | (simp [*]; done), by repeat (first | exact Drawn0.refl _ | apply Drawn0.step)⟩
   ·rw [if_neg c5] at H
    exact absurd H (by simp)
 ·replace c3 := Bool.eq_false_iff.mpr c3
  subst c3
  have H1 : (some a1) = some r := by rw [if_neg (show ¬ (false = true) by decide)] at H; exact H
  clear H
  have H := H1
  clear H1
  obtain rfl := Option.some.inj H
  go_enter Try.func48, Try.ntmps48
  go_wp2
  go_ret
  exact ⟨by first | rfl | (simp; done) | (simp [*]; done), by repeat (first | exact Drawn0.refl _ | apply Drawn0.step)⟩

theorem offcutref02_Made.sem (m : Bool) (n : Nat) (hn : (Dec.dc n).length < 9000000000000000000) : offcutref02_Made.f m (Dec.dec n) = some (Zn.tz (Zn.zv m n)) := by
 unfold offcutref02_Made.f
 rw [Zn.tz_zv]
 cases m
 ·rw [if_neg (by decide), if_neg (by simp)]
 ·rw [if_pos rfl]
  by_cases h : n = 0
  ·rw [if_pos ((Dec.dec_is0 n).2 h), if_neg (fun e => e.2 h)]
  ·rw [if_neg (fun e => h ((Dec.dec_is0 n).1 e)), if_pos (by rw [Zn.dec_size]; omega), if_pos ⟨rfl, h⟩]
/-! ### offcutref02_Below: function 52 -/
def offcutref02_Below.f (a0 : ByteArray) : Option (Bool) := if 0 < (a0.size : Int) then (some ((bt a0 0) == 45)) else (none)
set_option maxHeartbeats 8000000 in
set_option maxRecDepth 100000 in
theorem offcutref02_Below.calls (a0 : ByteArray) (r : Bool) (w : World) (h : offcutref02_Below.f a0 = some r) :
  Calls Try.prog 52 #[.string a0] w fun e w' => e = .returned (.bool r) ∧ Drawn0 w w' := by
 have H : (if 0 < (a0.size : Int) then (some ((bt a0 0) == 45)) else (none)) = some r := h
 clear h
 by_cases c2 : 0 < (a0.size : Int)
 ·rw [if_pos c2] at H
  have c2b0 : decide (0 < (a0.size : Int)) = true := decide_eq_true c2
  have c2b1 : decide (0 < a0.size) = true := decide_eq_true (by omega)
  clear c2
  obtain rfl := Option.some.inj H
  have p3 : 0 ≤ (0 : Int) := (by omega)
  have q3 : 0 < a0.size := (by have : (0 : Int) < (a0.size : Int) := of_decide_eq_true (by first | (with_reducible assumption) | assumption); omega)
  have hx3 : ∀ h : 0 < a0.size, ((a0[0]'h).toNat : Int) = bt a0 0 := bt_at a0 0
  clear p3
  have qi3 : (0 < (a0.size : Int)) = True := eq_true (of_decide_eq_true (by first | (with_reducible assumption) | assumption))
  replace q3 := eq_true q3
  go_enter Try.func52, Try.ntmps52
  go_wp2
  go_ret
  exact ⟨by first | rfl | (simp; done) | (simp [*]; done), by repeat (first | exact Drawn0.refl _ | apply Drawn0.step)⟩
 ·rw [if_neg c2] at H
  exact absurd H (by simp)

theorem offcutref02_Below.sem (z : Int) : offcutref02_Below.f (Zn.tz z) = some (decide (z < 0)) := by
 unfold offcutref02_Below.f
 have := Zn.tz_size_pos z
 rw [if_pos (by omega)]
 congr 1
 by_cases h : z < 0
 ·rw [decide_eq_true h, (Zn.tz_head z).2 h]
  rfl
 ·rw [decide_eq_false h]
  exact beq_eq_false_iff_ne.2 (fun e => h ((Zn.tz_head z).1 e))
/-! ### offcutref01_Less: function 57 -/
def offcutref01_Less.f (a0 : ByteArray) (a1 : ByteArray) : Option (Bool) := if (a0.size : Int) = (a1.size : Int) then (some (Op.bytesLess a0.toList a1.toList)) else (some (decide ((a0.size : Int) < (a1.size : Int))))
set_option maxHeartbeats 8000000 in
set_option maxRecDepth 100000 in
theorem offcutref01_Less.calls (a0 : ByteArray) (a1 : ByteArray) (r : Bool) (w : World) (h : offcutref01_Less.f a0 a1 = some r) :
  Calls Try.prog 57 #[.string a0, .string a1] w fun e w' => e = .returned (.bool r) ∧ Drawn0 w w' := by
 have H : (if (a0.size : Int) = (a1.size : Int) then (some (Op.bytesLess a0.toList a1.toList)) else (some (decide ((a0.size : Int) < (a1.size : Int))))) = some r := h
 clear h
 by_cases c3 : (a0.size : Int) = (a1.size : Int)
 ·rw [if_pos c3] at H
  have c3b0 : ((a0.size : Int) == (a1.size : Int)) = true := beq_iff_eq.mpr c3
  have c3b1 : ((a0.size : Int) != (a1.size : Int)) = false := bne_eq_false_iff_eq.mpr c3
  have c3b2 : (a0.size == a1.size) = true := by first | simpa using c3 | (simp at c3 ⊢; omega)
  clear c3
  obtain rfl := Option.some.inj H
  go_enter Try.func57, Try.ntmps57
  go_wp2
  go_ret
  exact ⟨by first | rfl | (simp; done) | (simp [*]; done), by repeat (first | exact Drawn0.refl _ | apply Drawn0.step)⟩
 ·rw [if_neg c3] at H
  have c3b0 : ((a0.size : Int) == (a1.size : Int)) = false := beq_eq_false_iff_ne.mpr c3
  have c3b1 : ((a0.size : Int) != (a1.size : Int)) = true := bne_iff_ne.mpr c3
  have c3b2 : (a0.size == a1.size) = false := by first | simpa using c3 | (simp at c3 ⊢; omega)
  obtain rfl := Option.some.inj H
  go_enter Try.func57, Try.ntmps57
  go_wp2
  go_ret
  exact ⟨by first | rfl | (simp; done) | (simp [*]; done), by repeat (first | exact Drawn0.refl _ | apply Drawn0.step)⟩

theorem offcutref01_Less.sem (m n : Nat) : offcutref01_Less.f (Dec.dec m) (Dec.dec n) = some (decide (m < n)) := by
 unfold offcutref01_Less.f
 by_cases h : (Dec.dec m).size = (Dec.dec n).size
 ·rw [if_pos (by omega), Dec.less_dec m n h]
 ·rw [if_neg (by omega)]
  congr 1
  unfold Dec.dec at h ⊢
  rw [Dec.tx_size, Dec.tx_size] at h ⊢
  rcases Nat.lt_or_ge (Dec.dc m).length (Dec.dc n).length with h1 | h1
  ·rw [decide_eq_true (Dec.dc_len_lt h1), decide_eq_true (by omega)]
  ·have := Dec.dc_len_lt (m := n) (n := m) (by omega)
   rw [decide_eq_false (by omega), decide_eq_false (by omega)]
/-! ### offcutref01_sign: function 80 -/
def offcutref01_sign.f (a0 : Int) : Option (ByteArray) := if 0 ≤ a0 then (if a0 ≤ (wrap64 (a0 + 1)) then (if (wrap64 (a0 + 1)) ≤ 10 then (some ((⟨#[48, 49, 50, 51, 52, 53, 54, 55, 56, 57]⟩ : ByteArray).extract (a0 : Int).toNat ((wrap64 (a0 + 1)) : Int).toNat)) else (none)) else (none)) else (none)
set_option maxHeartbeats 8000000 in
set_option maxRecDepth 100000 in
theorem offcutref01_sign.calls (a0 : Int) (r : ByteArray) (w : World) (h : offcutref01_sign.f a0 = some r) :
  Calls Try.prog 80 #[.int .i64 a0] w fun e w' => e = .returned (.string r) ∧ Drawn0 w w' := by
 have H : (if 0 ≤ a0 then (if a0 ≤ (wrap64 (a0 + 1)) then (if (wrap64 (a0 + 1)) ≤ 10 then (some ((⟨#[48, 49, 50, 51, 52, 53, 54, 55, 56, 57]⟩ : ByteArray).extract (a0 : Int).toNat ((wrap64 (a0 + 1)) : Int).toNat)) else (none)) else (none)) else (none)) = some r := h
 clear h
 by_cases c2 : 0 ≤ a0
 ·rw [if_pos c2] at H
  have c2b0 := eq_true c2
  have c2b1 : decide (0 ≤ a0) = true := decide_eq_true c2
  clear c2
  by_cases c3 : a0 ≤ (wrap64 (a0 + 1))
  ·rw [if_pos c3] at H
   have c3b0 := eq_true c3
   have c3b1 : decide (a0 ≤ (wrap64 (a0 + 1))) = true := decide_eq_true c3
   by_cases c4 : (wrap64 (a0 + 1)) ≤ 10
   ·rw [if_pos c4] at H
    have c4b0 := eq_true c4
    have c4b1 : decide ((wrap64 (a0 + 1)) ≤ 10) = true := decide_eq_true c4
    obtain rfl := Option.some.inj H
    go_enter Try.func80, Try.ntmps80
    go_wp2
    go_ret
    exact ⟨by first | rfl | (simp; done) | (simp [*]; done), by repeat (first | exact Drawn0.refl _ | apply Drawn0.step)⟩
   ·rw [if_neg c4] at H
    exact absurd H (by simp)
  ·rw [if_neg c3] at H
   exact absurd H (by simp)
 ·rw [if_neg c2] at H
  exact absurd H (by simp)

theorem offcutref01_sign.sem (d : Nat) (h : d < 10) : offcutref01_sign.f (d : Int) = some (Dec.tx [d]) := by
 have : d = 0 ∨ d = 1 ∨ d = 2 ∨ d = 3 ∨ d = 4 ∨ d = 5 ∨ d = 6 ∨ d = 7 ∨ d = 8 ∨ d = 9 := by omega
 unfold offcutref01_sign.f
 rw [if_pos (by omega), Dec.w64s _ (by omega), if_pos (by omega), if_pos (by omega), Int.toNat_natCast, Int.toNat_natCast]
 show some ((ByteArray.mk (([48, 49, 50, 51, 52, 53, 54, 55, 56, 57] : List UInt8).toArray)).extract d (d + 1)) = _
 rw [ByteArray.extract_mk]
 rcases this with rfl | rfl | rfl | rfl | rfl | rfl | rfl | rfl | rfl | rfl <;> rfl
/-! ### offcutref01_cut: function 81 -/
def offcutref01_cut.l0 : Nat → ByteArray → Option (ByteArray)
 | 0, _ => none
 | k + 1, x0 => if (x0.size : Int) > 1 then (if 0 < (x0.size : Int) then (if (bt x0 0) = 48 then (if 1 ≤ (x0.size : Int) then (offcutref01_cut.l0 k (x0.extract 1 x0.size)) else (none)) else (if x0.toList = ([] : List UInt8) then (some (⟨#[48]⟩ : ByteArray)) else (some x0))) else (none)) else (if x0.toList = ([] : List UInt8) then (some (⟨#[48]⟩ : ByteArray)) else (some x0))
def offcutref01_cut.f (k : Nat) (a0 : ByteArray) : Option (ByteArray) := offcutref01_cut.l0 k a0
set_option maxHeartbeats 8000000 in
set_option maxRecDepth 100000 in
theorem offcutref01_cut.calls (k : Nat) (a0 : ByteArray) (r : ByteArray) (w : World) (h : offcutref01_cut.f k a0 = some r) :
  Calls Try.prog 81 #[.string a0] w fun e w' => e = .returned (.string r) ∧ Drawn0 w w' := by
 have H : (offcutref01_cut.l0 k a0) = some r := h
 clear h
 have H' := Aside0.mk H
 clear H
 go_enter Try.func81, Try.ntmps81
 go_wp2
 go_loopg [0] k (fun kq v0 w' => ∃ (x0_1 : ByteArray), v0 = .string x0_1 ∧ Aside0 (offcutref01_cut.l0 kq x0_1 = some r) ∧ Aside0 (kq ≤ k) ∧ Drawn0 w w')
 case atStart => exact ⟨(a0), (by first | rfl | (simp; done) | (simp [*]; done)), H', ⟨Nat.le_refl _⟩, by repeat (first | exact Drawn0.refl _ | apply Drawn0.step)⟩
 case round =>
  clear H'
  obtain ⟨x0_1, rfl, HA, HK1, ⟨m1, rfl⟩⟩ := hrel
  cases gk with
  | zero => exact absurd HA.out (by simp [offcutref01_cut.l0])
  | succ k1 =>
   have H := HA.out
   clear HA
   simp only [offcutref01_cut.l0] at H
   by_cases c2 : (x0_1.size : Int) > 1
   ·rw [if_pos c2] at H
    have c2b0 : decide (1 < (x0_1.size : Int)) = true := decide_eq_true c2
    have c2b1 : decide (1 < x0_1.size) = true := decide_eq_true (by omega)
    clear c2
    by_cases c3 : 0 < (x0_1.size : Int)
    ·rw [if_pos c3] at H
     have c3b0 : decide (0 < (x0_1.size : Int)) = true := decide_eq_true c3
     have c3b1 : decide (0 < x0_1.size) = true := decide_eq_true (by omega)
     clear c3
     by_cases c5 : (bt x0_1 0) = 48
     ·rw [if_pos c5] at H
      have c5b0 : ((bt x0_1 0) == 48) = true := beq_iff_eq.mpr c5
      have c5b1 : ((bt x0_1 0) != 48) = false := bne_eq_false_iff_eq.mpr c5
      clear c5
      by_cases c6 : 1 ≤ (x0_1.size : Int)
      ·rw [if_pos c6] at H
       have c6b0 := eq_true c6
       have c6b1 : decide (1 ≤ (x0_1.size : Int)) = true := decide_eq_true c6
       clear c6
       have H' := Aside0.mk H
       clear H
       have p4 : 0 ≤ (0 : Int) := (by omega)
       have q4 : 0 < x0_1.size := (by have : (0 : Int) < (x0_1.size : Int) := of_decide_eq_true (by first | (with_reducible assumption) | assumption); omega)
       have hx4 : ∀ h : 0 < x0_1.size, ((x0_1[0]'h).toNat : Int) = bt x0_1 0 := bt_at x0_1 0
       clear p4
       have qi4 : (0 < (x0_1.size : Int)) = True := eq_true (of_decide_eq_true (by first | (with_reducible assumption) | assumption))
       replace q4 := eq_true q4
       go_wp2
       go_roundg k1
       case measure => have := HK1.out; omega
       case rel => exact ⟨(x0_1.extract 1 x0_1.size), (by first | rfl | (simp; done) | (simp [*]; done)), H', ⟨by have := HK1.out; omega⟩, by repeat (first | exact Drawn0.refl _ | apply Drawn0.step)⟩
      ·rw [if_neg c6] at H
       exact absurd H (by simp)
     ·rw [if_neg c5] at H
      have c5b0 : ((bt x0_1 0) == 48) = false := beq_eq_false_iff_ne.mpr c5
      have c5b1 : ((bt x0_1 0) != 48) = true := bne_iff_ne.mpr c5
      by_cases c7 : x0_1.toList = ([] : List UInt8)
      ·rw [if_pos c7] at H
       have c7b0 : (x0_1.toList == ([] : List UInt8)) = true := beq_iff_eq.mpr c7
       have c7b1 : (x0_1.toList != ([] : List UInt8)) = false := bne_eq_false_iff_eq.mpr c7
       clear c7
       obtain rfl := Option.some.inj H
       have p4 : 0 ≤ (0 : Int) := (by omega)
       have q4 : 0 < x0_1.size := (by have : (0 : Int) < (x0_1.size : Int) := of_decide_eq_true (by first | (with_reducible assumption) | assumption); omega)
       have hx4 : ∀ h : 0 < x0_1.size, ((x0_1[0]'h).toNat : Int) = bt x0_1 0 := bt_at x0_1 0
       clear p4
       have qi4 : (0 < (x0_1.size : Int)) = True := eq_true (of_decide_eq_true (by first | (with_reducible assumption) | assumption))
       replace q4 := eq_true q4
       go_wp2
       go_ret
       exact ⟨by first | rfl | (simp; done) | (simp [*]; done), by repeat (first | exact Drawn0.refl _ | apply Drawn0.step)⟩
      ·rw [if_neg c7] at H
       have c7b0 : (x0_1.toList == ([] : List UInt8)) = false := beq_eq_false_iff_ne.mpr c7
       have c7b1 : (x0_1.toList != ([] : List UInt8)) = true := bne_iff_ne.mpr c7
       obtain rfl := Option.some.inj H
       have p4 : 0 ≤ (0 : Int) := (by omega)
       have q4 : 0 < x0_1.size := (by have : (0 : Int) < (x0_1.size : Int) := of_decide_eq_true (by first | (with_reducible assumption) | assumption); omega)
       have hx4 : ∀ h : 0 < x0_1.size, ((x0_1[0]'h).toNat : Int) = bt x0_1 0 := bt_at x0_1 0
       clear p4
       have qi4 : (0 < (x0_1.size : Int)) = True := eq_true (of_decide_eq_true (by first | (with_reducible assumption) | assumption))
       replace q4 := eq_true q4
       go_wp2
       go_ret
       exact ⟨by first | rfl | (simp; done) | (simp [*]; done), by repeat (first | exact Drawn0.refl _ | apply Drawn0.step)⟩
    ·rw [if_neg c3] at H
     exact absurd H (by simp)
   ·rw [if_neg c2] at H
    have c2b0 : decide (1 < (x0_1.size : Int)) = false := decide_eq_false c2
    have c2b1 : decide (1 < x0_1.size) = false := decide_eq_false (by omega)
    clear c2
    by_cases c8 : x0_1.toList = ([] : List UInt8)
    ·rw [if_pos c8] at H
     have c8b0 : (x0_1.toList == ([] : List UInt8)) = true := beq_iff_eq.mpr c8
     have c8b1 : (x0_1.toList != ([] : List UInt8)) = false := bne_eq_false_iff_eq.mpr c8
     clear c8
     obtain rfl := Option.some.inj H
     go_wp2
     go_ret
     exact ⟨by first | rfl | (simp; done) | (simp [*]; done), by repeat (first | exact Drawn0.refl _ | apply Drawn0.step)⟩
    ·rw [if_neg c8] at H
     have c8b0 : (x0_1.toList == ([] : List UInt8)) = false := beq_eq_false_iff_ne.mpr c8
     have c8b1 : (x0_1.toList != ([] : List UInt8)) = true := bne_iff_ne.mpr c8
     obtain rfl := Option.some.inj H
     go_wp2
     go_ret
     exact ⟨by first | rfl | (simp; done) | (simp [*]; done), by repeat (first | exact Drawn0.refl _ | apply Drawn0.step)⟩

theorem offcutref01_cut.ev_n (n : Nat) : ∀ {l : List Nat}, l.length = n → Dec.Ds l → Ev (fun k => offcutref01_cut.f k (Dec.tx l)) (Dec.dec (Dec.dv l)) := by
 induction n with
 | zero =>
  intro l hl h
  obtain rfl : l = [] := List.eq_nil_of_length_eq_zero hl
  refine Ev.step (f := fun _ => some (Dec.dec (Dec.dv []))) (fun k => ?_) (Ev.now _)
  show offcutref01_cut.l0 (k + 1) _ = _
  rw [offcutref01_cut.l0, Dec.tx_size, if_neg (by simp), if_pos (by rw [Dec.tx_toList]; rfl), ← Dec.dec_zero]
  rfl
 | succ n ih =>
  intro l hl h
  rcases List.eq_nil_or_concat l with rfl | ⟨l', d, rfl⟩
  ·simp at hl
  ·rw [List.concat_eq_append] at hl h ⊢
   have hd : d < 10 := h.right.head
   have hn : l'.length = n := by simpa using hl
   have hnn : (Dec.tx (l' ++ [d])).toList ≠ [] := by rw [Dec.tx_toList]; simp
   have hbt := Dec.bt_tx h 0 (by simp)
   rw [show (l' ++ [d]).length - 1 - 0 = l'.length from by simp] at hbt
   rw [show (l' ++ [d]).getD l'.length 0 = d from by simp] at hbt
   by_cases h0 : n = 0
   ·obtain rfl : l' = [] := List.eq_nil_of_length_eq_zero (by omega)
    refine Ev.step (f := fun _ => some (Dec.tx ([] ++ [d]))) (fun k => ?_) ?_
    ·show offcutref01_cut.l0 (k + 1) _ = _
     rw [offcutref01_cut.l0, Dec.tx_size, if_neg (by simp), if_neg hnn]
    ·by_cases hd0 : d = 0
     ·subst hd0
      exact Ev.now _
     ·unfold Dec.dec
      rw [Dec.dc_snoc Dec.Ds.nil hd hd0]
      exact Ev.now _
   ·by_cases hd0 : d = 0
    ·subst hd0
     refine Ev.step (f := fun k => offcutref01_cut.f k (Dec.tx l')) (fun k => ?_) ?_
     ·show offcutref01_cut.l0 (k + 1) _ = offcutref01_cut.l0 k _
      rw [offcutref01_cut.l0, Dec.tx_tail, Dec.tx_size, if_pos (by simp <;> omega), if_pos (by simp <;> omega), if_pos (by rw [← Int.natCast_zero, hbt] <;> rfl), if_pos (by simp <;> omega)]
     ·rw [Dec.dv_snoc, Nat.mul_zero, Nat.add_zero]
      exact ih hn h.left
    ·refine Ev.step (f := fun _ => some (Dec.tx (l' ++ [d]))) (fun k => ?_) ?_
     ·show offcutref01_cut.l0 (k + 1) _ = _
      rw [offcutref01_cut.l0, Dec.tx_size, if_pos (by simp <;> omega), if_pos (by simp <;> omega), if_neg (by rw [← Int.natCast_zero, hbt] <;> omega), if_neg hnn]
     ·unfold Dec.dec
      rw [Dec.dc_snoc h.left hd hd0]
      exact Ev.now _
theorem offcutref01_cut.ev {l : List Nat} (h : Dec.Ds l) : Ev (fun k => offcutref01_cut.f k (Dec.tx l)) (Dec.dec (Dec.dv l)) := offcutref01_cut.ev_n _ rfl h
/-! ### offcutref01_at: function 82 -/
def offcutref01_at.f (a0 : ByteArray) (a1 : Int) : Option (Int) := if a1 < (a0.size : Int) then (if 0 ≤ (wrap64 ((wrap64 ((a0.size : Int) - 1)) - a1)) then (if (wrap64 ((wrap64 ((a0.size : Int) - 1)) - a1)) < (a0.size : Int) then (some (((bt a0 (wrap64 ((wrap64 ((a0.size : Int) - 1)) - a1))) - 48) % 256)) else (none)) else (none)) else (some 0)
set_option maxHeartbeats 8000000 in
set_option maxRecDepth 100000 in
theorem offcutref01_at.calls (a0 : ByteArray) (a1 : Int) (r : Int) (w : World) (h : offcutref01_at.f a0 a1 = some r) :
  Calls Try.prog 82 #[.string a0, .int .i64 a1] w fun e w' => e = .returned (.int .i64 r) ∧ Drawn0 w w' := by
 have H : (if a1 < (a0.size : Int) then (if 0 ≤ (wrap64 ((wrap64 ((a0.size : Int) - 1)) - a1)) then (if (wrap64 ((wrap64 ((a0.size : Int) - 1)) - a1)) < (a0.size : Int) then (some (((bt a0 (wrap64 ((wrap64 ((a0.size : Int) - 1)) - a1))) - 48) % 256)) else (none)) else (none)) else (some 0)) = some r := h
 clear h
 by_cases c3 : a1 < (a0.size : Int)
 ·rw [if_pos c3] at H
  have c3b0 : decide (a1 < (a0.size : Int)) = true := decide_eq_true c3
  clear c3
  obtain ⟨ji4, hji4⟩ : ∃ j_ : Int, (wrap64 ((wrap64 ((a0.size : Int) - 1)) - a1)) = j_ := ⟨_, rfl⟩
  replace H : (if 0 ≤ (ji4) then (if (ji4) < (a0.size : Int) then (some (((bt a0 (ji4)) - 48) % 256)) else (none)) else (none)) = some r := by first | (rw [hji4] at H; exact H) | (simp only [hji4] at H ⊢; exact H)
  have hji4w : (IntKind.i64.wrap ((wrap64 ((a0.size : Int) - 1)) - a1)) = ji4 := (i64_w _).trans hji4
  by_cases c5 : 0 ≤ (ji4)
  ·rw [if_pos c5] at H
   have c5b0 : decide (0 ≤ (ji4)) = true := decide_eq_true c5
   clear c5
   by_cases c6 : (ji4) < (a0.size : Int)
   ·rw [if_pos c6] at H
    have c6b0 : decide ((ji4) < (a0.size : Int)) = true := decide_eq_true c6
    clear c6
    obtain rfl := Option.some.inj H
    have p7 : 0 ≤ ((ji4) : Int) := of_decide_eq_true (by first | (with_reducible assumption) | assumption)
    have q7 : (ji4) < (a0.size : Int) := of_decide_eq_true (by first | (with_reducible assumption) | assumption)
    have hx7 := bt_at a0 (ji4)
    replace p7 := eq_true p7
    replace q7 := eq_true q7
    go_enter Try.func82, Try.ntmps82
    go_wp2
    go_ret
    exact ⟨by first | rfl | (simp; done) | (simp only [← hji4] <;> (first | rfl | simp)) | (simp [*]; done), by repeat (first | exact Drawn0.refl _ | apply Drawn0.step)⟩
   ·rw [if_neg c6] at H
    exact absurd H (by simp)
  ·rw [if_neg c5] at H
   exact absurd H (by simp)
 ·rw [if_neg c3] at H
  have c3b0 : decide (a1 < (a0.size : Int)) = false := decide_eq_false c3
  clear c3
  obtain rfl := Option.some.inj H
  go_enter Try.func82, Try.ntmps82
  go_wp2
  go_ret
  exact ⟨by first | rfl | (simp; done) | (simp [*]; done), by repeat (first | exact Drawn0.refl _ | apply Drawn0.step)⟩

theorem offcutref01_at.sem {l : List Nat} (h : Dec.Ds l) (hl : l.length < 9223372036854775807) (i : Nat) : offcutref01_at.f (Dec.tx l) (i : Int) = some ((l.getD i 0 : Nat) : Int) := by
 unfold offcutref01_at.f
 rw [Dec.tx_size]
 by_cases hi : i < l.length
 ·rw [if_pos (by omega), Dec.w64p _ (by omega) (by omega), Dec.w64d _ _ (by omega) (by omega), if_pos (by omega), if_pos (by omega), Dec.bt_tx h _ (by omega)]
  have := h.getD i
  rw [show l.length - 1 - (l.length - 1 - i) = i from by omega]
  congr 1
  omega
 ·rw [if_neg (by omega), List.getD_eq_getElem?_getD, List.getElem?_eq_none (by omega)]
  rfl
/-! ### offcutref01_Sub: function 58 -/
def offcutref01_Sub.l0 : Nat → ByteArray → ByteArray → ByteArray → Int → Int → Option (ByteArray)
 | 0, _, _, _, _, _ => none
 | k + 1, x0, x1, x5, x6, x7 => if x7 < (x0.size : Int) then ((offcutref01_at.f x0 x7).bind fun t600 => ((offcutref01_at.f x1 x7).bind fun t601 => ((offcutref01_sign.f (Int.tmod (wrap64 ((wrap64 ((wrap64 (t600 - t601)) - x6)) + 10)) 10)).bind fun t602 => (if t602.size + x5.size ≤ 9223372036854775807 then (offcutref01_Sub.l0 k x0 x1 (t602 ++ x5) (wrap64 (1 - (wrap64 (Int.tdiv (wrap64 ((wrap64 ((wrap64 (t600 - t601)) - x6)) + 10)) 10)))) (wrap64 (x7 + 1))) else (none))))) else ((offcutref01_cut.f k x5).bind fun t603 => (some t603))
def offcutref01_Sub.f (k : Nat) (a0 : ByteArray) (a1 : ByteArray) : Option (ByteArray) := offcutref01_Sub.l0 k a0 a1 (⟨#[]⟩ : ByteArray) 0 0
set_option maxHeartbeats 8000000 in
set_option maxRecDepth 100000 in
theorem offcutref01_Sub.calls (k : Nat) (a0 : ByteArray) (a1 : ByteArray) (r : ByteArray) (w : World) (h : offcutref01_Sub.f k a0 a1 = some r) :
  Calls Try.prog 58 #[.string a0, .string a1] w fun e w' => e = .returned (.string r) ∧ Drawn0 w w' := by
 have H : (offcutref01_Sub.l0 k a0 a1 (⟨#[]⟩ : ByteArray) 0 0) = some r := h
 clear h
 have H' := Aside0.mk H
 clear H
 go_enter Try.func58, Try.ntmps58
 go_wp2
 go_loopg [5, 6, 7] k (fun kq v5 v6 v7 w' => ∃ (x5_1 : ByteArray) (x6_1 : Int) (x7_1 : Int), v5 = .string x5_1 ∧ v6 = .int .i64 x6_1 ∧ v7 = .int .i64 x7_1 ∧ Aside0 (offcutref01_Sub.l0 kq a0 a1 x5_1 x6_1 x7_1 = some r) ∧ Aside0 (kq ≤ k) ∧ Drawn0 w w')
 case atStart => exact ⟨((⟨#[]⟩ : ByteArray)), (0), (0), (by first | rfl | (simp; done) | (simp [*]; done)), (by first | rfl | (simp; done) | (simp [*]; done)), (by first | rfl | (simp; done) | (simp [*]; done)), H', ⟨Nat.le_refl _⟩, by repeat (first | exact Drawn0.refl _ | apply Drawn0.step)⟩
 case round =>
  clear H'
  try clear p2
  obtain ⟨x5_1, x6_1, x7_1, rfl, rfl, rfl, HA, HK1, ⟨m1, rfl⟩⟩ := hrel
  cases gk with
  | zero => exact absurd HA.out (by simp [offcutref01_Sub.l0])
  | succ k1 =>
   have H := HA.out
   clear HA
   simp only [offcutref01_Sub.l0] at H
   by_cases c3 : x7_1 < (a0.size : Int)
   ·rw [if_pos c3] at H
    have c3b0 : decide (x7_1 < (a0.size : Int)) = true := decide_eq_true c3
    clear c3
    replace H := Option.bind_eq_some_iff.mp H
    obtain ⟨t600, A40, H⟩ := H
    try dsimp only at H
    have A4 := Aside0.mk A40
    clear A40
    replace H := Option.bind_eq_some_iff.mp H
    obtain ⟨t601, A50, H⟩ := H
    try dsimp only at H
    have A5 := Aside0.mk A50
    clear A50
    replace H := Option.bind_eq_some_iff.mp H
    obtain ⟨t602, A60, H⟩ := H
    try dsimp only at H
    have A6 := Aside0.mk A60
    clear A60
    by_cases c7 : t602.size + x5_1.size ≤ 9223372036854775807
    ·rw [if_pos c7] at H
     have c7b0 := eq_true c7
     have c7b1 : decide (t602.size + x5_1.size ≤ 9223372036854775807) = true := decide_eq_true c7
     try have c7b2 : (9223372036854775807 < t602.size + x5_1.size) = False := eq_false (Nat.not_lt.2 c7)
     have H' := Aside0.mk H
     clear H
     go_wp2_with (first | ((with_reducible refine gate_callee (f := 82) rfl ?_); refine Short.goesS_ (some 17) Try.func82 #[.string a0, .int .i64 x7_1] ?_; (with_reducible refine (offcutref01_at.calls a0 x7_1 t600 _ A4.out).mono ?_); rintro e w' ⟨rfl, ⟨nd, rfl⟩⟩; refine ⟨_, rfl, ?_⟩) | ((with_reducible refine gate_callee (f := 82) rfl ?_); refine Short.goesS_ (some 20) Try.func82 #[.string a1, .int .i64 x7_1] ?_; (with_reducible refine (offcutref01_at.calls a1 x7_1 t601 _ A5.out).mono ?_); rintro e w' ⟨rfl, ⟨nd, rfl⟩⟩; refine ⟨_, rfl, ?_⟩) | ((with_reducible refine gate_callee (f := 80) rfl ?_); refine Short.goesS_ (some 27) Try.func80 #[.int .i64 (Int.tmod (wrap64 ((wrap64 ((wrap64 (t600 - t601)) - x6_1)) + 10)) 10)] ?_; (with_reducible refine (offcutref01_sign.calls (Int.tmod (wrap64 ((wrap64 ((wrap64 (t600 - t601)) - x6_1)) + 10)) 10) t602 _ A6.out).mono ?_); rintro e w' ⟨rfl, ⟨nd, rfl⟩⟩; refine ⟨_, rfl, ?_⟩))
     go_roundg k1
     case measure => have := HK1.out; omega
     case rel => exact ⟨(t602 ++ x5_1), (wrap64 (1 - (wrap64 (Int.tdiv (wrap64 ((wrap64 ((wrap64 (t600 - t601)) - x6_1)) + 10)) 10)))), (wrap64 (x7_1 + 1)), (by first | rfl | (simp; done) | (simp [*]; done)), (by first | rfl | (simp; done) | (simp [*]; done)), (by first | rfl | (simp; done) | (simp [*]; done)), H', ⟨by have := HK1.out; omega⟩, by repeat (first | exact Drawn0.refl _ | apply Drawn0.step)⟩
    ·rw [if_neg c7] at H
     exact absurd H (by simp)
   ·rw [if_neg c3] at H
    have c3b0 : decide (x7_1 < (a0.size : Int)) = false := decide_eq_false c3
    clear c3
    replace H := Option.bind_eq_some_iff.mp H
    obtain ⟨t603, A80, H⟩ := H
    replace H : (some t603) = some r := H
    have A8 := Aside0.mk A80
    clear A80
    obtain rfl := Option.some.inj H
    go_wp2_with (first | ((with_reducible refine gate_callee (f := 81) rfl ?_); refine Short.goesS_ (some 34) Try.func81 #[.string x5_1] ?_; (with_reducible refine (offcutref01_cut.calls k1 x5_1 t603 _ A8.out).mono ?_); rintro e w' ⟨rfl, ⟨nd, rfl⟩⟩; refine ⟨_, rfl, ?_⟩))
    go_ret
    exact ⟨by first | rfl | (simp; done) | (simp [*]; done), by repeat (first | exact Drawn0.refl _ | apply Drawn0.step)⟩

theorem offcutref01_Sub.ev_l {a b : List Nat} (ha : Dec.Ds a) (hb : Dec.Ds b) (la : a.length < 1000000000) (lb : b.length ≤ a.length) (hba : Dec.dv b ≤ Dec.dv a) (d : Nat) : ∀ (out : List Nat) (c : Nat), out.length + d = a.length → Dec.Ds out → c ≤ 1 →
  Dec.dv (a.take out.length) + 10 ^ out.length * c = Dec.dv out + Dec.dv (b.take out.length) → Ev (fun k => offcutref01_Sub.l0 k (Dec.tx a) (Dec.tx b) (Dec.tx out) (c : Int) (out.length : Int)) (Dec.dec (Dec.dv a - Dec.dv b)) := by
 induction d with
 | zero =>
  intro out c hd ho hc hv
  have h1 := Dec.dv_lt ho
  rw [List.take_of_length_le (by omega), List.take_of_length_le (by omega)] at hv
  have hvv : Dec.dv out = Dec.dv a - Dec.dv b := by
   rcases Nat.eq_zero_or_pos c with h | h
   ·subst h; omega
   ·obtain rfl : c = 1 := by omega
    omega
  refine Ev.step (f := fun k => (offcutref01_cut.f k (Dec.tx out)).bind fun t => some t) (fun k => ?_) ?_
  ·rw [offcutref01_Sub.l0, Dec.tx_size, if_neg (by omega)]
  ·rw [← hvv]
   exact Ev.bind (offcutref01_cut.ev ho) (Ev.now _)
 | succ d ih =>
  intro out c hd ho hc hv
  have h1 := ha.getD out.length
  have h2 := hb.getD out.length
  obtain ⟨p, hp⟩ : ∃ p, p = a.getD out.length 0 := ⟨_, rfl⟩
  obtain ⟨q, hq⟩ : ∃ q, q = b.getD out.length 0 := ⟨_, rfl⟩
  rw [← hp] at h1
  rw [← hq] at h2
  obtain ⟨n, hn⟩ : ∃ n, n = p + 10 - q - c := ⟨_, rfl⟩
  have e1 : wrap64 ((wrap64 ((wrap64 ((p : Int) - (q : Int))) - (c : Int))) + 10) = (n : Int) := by
   rw [Dec.w64 (n := (p : Int) - (q : Int)) (by omega) (by omega), Dec.w64 (n := (p : Int) - (q : Int) - (c : Int)) (by omega) (by omega), Dec.w64 (by omega) (by omega)]
   omega
  have e2 : wrap64 (1 - ((n / 10 : Nat) : Int)) = ((1 - n / 10 : Nat) : Int) := by
   rw [Dec.w64 (by omega) (by omega)]
   omega
  refine Ev.step (f := fun k => offcutref01_Sub.l0 k (Dec.tx a) (Dec.tx b) (Dec.tx (out ++ [n % 10])) ((1 - n / 10 : Nat) : Int) ((out.length + 1 : Nat) : Int)) (fun k => ?_) ?_
  ·rw [offcutref01_Sub.l0, Dec.tx_size, if_pos (by omega), offcutref01_at.sem ha (by omega), offcutref01_at.sem hb (by omega), ← hp, ← hq, Option.bind_some, Option.bind_some, e1, Dec.tmod10, Dec.tdiv10, offcutref01_sign.sem _ (Nat.mod_lt _ (by omega)), Option.bind_some, Dec.tx_append, Dec.tx_size, Dec.tx_size, if_pos (by rw [List.length_singleton]; omega), Dec.w64n _ (by omega), e2, Dec.w64s _ (by omega)]
  ·have := ih (out ++ [n % 10]) (1 - n / 10) (by rw [List.length_append, List.length_singleton]; omega) (ho.snoc (Nat.mod_lt _ (by omega))) (by omega) (by
    rw [List.length_append, List.length_singleton, Dec.dv_take_succ, Dec.dv_take_succ, ← hp, ← hq, Dec.dv_snoc, Nat.pow_succ]
    have h3 : 10 ^ out.length * (p + 10 * (1 - n / 10)) = 10 ^ out.length * (n % 10 + q + c) := by congr 1; omega
    rw [Nat.mul_add, Nat.mul_add, Nat.mul_add, ← Nat.mul_assoc] at h3
    omega)
   rw [List.length_append, List.length_singleton] at this
   exact this
theorem offcutref01_Sub.ev {a b : List Nat} (ha : Dec.Ds a) (hb : Dec.Ds b) (la : a.length < 1000000000) (lb : b.length ≤ a.length) (hba : Dec.dv b ≤ Dec.dv a) : Ev (fun k => offcutref01_Sub.f k (Dec.tx a) (Dec.tx b)) (Dec.dec (Dec.dv a - Dec.dv b)) :=
 offcutref01_Sub.ev_l ha hb la lb hba a.length [] 0 (by rw [List.length_nil]; omega) Dec.Ds.nil (by omega) (by rw [List.length_nil, List.take_zero, List.take_zero]; rfl)
theorem offcutref01_Sub.ev_dec {m n : Nat} (h : n ≤ m) (hl : (Dec.dc m).length < 1000000000) : Ev (fun k => offcutref01_Sub.f k (Dec.dec m) (Dec.dec n)) (Dec.dec (m - n)) := by
 have hlen : (Dec.dc n).length ≤ (Dec.dc m).length := by
  rcases Nat.lt_or_ge (Dec.dc m).length (Dec.dc n).length with h1 | h1
  ·have := Dec.dc_len_lt h1
   omega
  ·exact h1
 have := offcutref01_Sub.ev (Dec.Ds_dc m) (Dec.Ds_dc n) hl hlen (by rw [Dec.dv_dc, Dec.dv_dc]; exact h)
 rw [Dec.dv_dc, Dec.dv_dc] at this
 exact this
/-! ### offcutref01_DivMod: function 53 -/
mutual
def offcutref01_DivMod.l0 : Nat → ByteArray → ByteArray → ByteArray → ByteArray → Int → Option (ByteArray × ByteArray)
 | 0, _, _, _, _, _ => none
 | k + 1, x0, x1, x6, x7, x8 => if x8 < (x0.size : Int) then (if 0 ≤ x8 then (if x8 ≤ (wrap64 (x8 + 1)) then (if (wrap64 (x8 + 1)) ≤ (x0.size : Int) then (if x7.size + (x0.extract (x8 : Int).toNat ((wrap64 (x8 + 1)) : Int).toNat).size ≤ 9223372036854775807 then ((offcutref01_cut.f k (x7 ++ (x0.extract (x8 : Int).toNat ((wrap64 (x8 + 1)) : Int).toNat))).bind fun t605 => (offcutref01_DivMod.l1 k x0 x1 x6 t605 x8 0)) else (none)) else (none)) else (none)) else (none)) else ((offcutref01_cut.f k x6).bind fun t604 => (some (t604, x7)))
def offcutref01_DivMod.l1 : Nat → ByteArray → ByteArray → ByteArray → ByteArray → Int → Int → Option (ByteArray × ByteArray)
 | 0, _, _, _, _, _, _ => none
 | k + 1, x0, x1, x6, x7, x8, x9 => (offcutref01_Less.f x7 x1).bind fun t606 => (if t606 = true then ((offcutref01_sign.f x9).bind fun t607 => (if x6.size + t607.size ≤ 9223372036854775807 then (offcutref01_DivMod.l0 k x0 x1 (x6 ++ t607) x7 (wrap64 (x8 + 1))) else (none))) else ((offcutref01_Sub.f k x7 x1).bind fun t608 => (offcutref01_DivMod.l1 k x0 x1 x6 t608 x8 (wrap64 (x9 + 1)))))
end
def offcutref01_DivMod.f (k : Nat) (a0 : ByteArray) (a1 : ByteArray) : Option (ByteArray × ByteArray) := offcutref01_DivMod.l0 k a0 a1 (⟨#[]⟩ : ByteArray) (⟨#[48]⟩ : ByteArray) 0
set_option maxHeartbeats 8000000 in
set_option maxRecDepth 100000 in
theorem offcutref01_DivMod.calls (k : Nat) (a0 : ByteArray) (a1 : ByteArray) (r1 : ByteArray) (r2 : ByteArray) (w : World) (h : offcutref01_DivMod.f k a0 a1 = some (r1, r2)) :
  Calls Try.prog 53 #[.string a0, .string a1] w fun e w' => e = .returned (.tuple #[.string r1, .string r2]) ∧ Drawn0 w w' := by
 have H : (offcutref01_DivMod.l0 k a0 a1 (⟨#[]⟩ : ByteArray) (⟨#[48]⟩ : ByteArray) 0) = some (r1, r2) := h
 clear h
 have H' := Aside0.mk H
 clear H
 go_enter Try.func53, Try.ntmps53
 go_wp2
 go_loopg [6, 7, 8] k (fun kq v6 v7 v8 w' => ∃ (x6_1 : ByteArray) (x7_1 : ByteArray) (x8_1 : Int), v6 = .string x6_1 ∧ v7 = .string x7_1 ∧ v8 = .int .i64 x8_1 ∧ Aside0 (offcutref01_DivMod.l0 kq a0 a1 x6_1 x7_1 x8_1 = some (r1, r2)) ∧ Aside0 (kq ≤ k) ∧ Drawn0 w w')
 case atStart => exact ⟨((⟨#[]⟩ : ByteArray)), ((⟨#[48]⟩ : ByteArray)), (0), (by first | rfl | (simp; done) | (simp [*]; done)), (by first | rfl | (simp; done) | (simp [*]; done)), (by first | rfl | (simp; done) | (simp [*]; done)), H', ⟨Nat.le_refl _⟩, by repeat (first | exact Drawn0.refl _ | apply Drawn0.step)⟩
 case round =>
  clear H'
  try clear p2
  obtain ⟨x6_1, x7_1, x8_1, rfl, rfl, rfl, HA, HK1, ⟨m1, rfl⟩⟩ := hrel
  cases gk with
  | zero => exact absurd HA.out (by simp [offcutref01_DivMod.l0])
  | succ k1 =>
   have H := HA.out
   clear HA
   simp only [offcutref01_DivMod.l0] at H
   by_cases c3 : x8_1 < (a0.size : Int)
   ·rw [if_pos c3] at H
    have c3b0 : decide (x8_1 < (a0.size : Int)) = true := decide_eq_true c3
    clear c3
    by_cases c4 : 0 ≤ x8_1
    ·rw [if_pos c4] at H
     have c4b0 := eq_true c4
     have c4b1 : decide (0 ≤ x8_1) = true := decide_eq_true c4
     clear c4
     by_cases c5 : x8_1 ≤ (wrap64 (x8_1 + 1))
     ·rw [if_pos c5] at H
      have c5b0 := eq_true c5
      have c5b1 : decide (x8_1 ≤ (wrap64 (x8_1 + 1))) = true := decide_eq_true c5
      by_cases c6 : (wrap64 (x8_1 + 1)) ≤ (a0.size : Int)
      ·rw [if_pos c6] at H
       have c6b0 := eq_true c6
       have c6b1 : decide ((wrap64 (x8_1 + 1)) ≤ (a0.size : Int)) = true := decide_eq_true c6
       by_cases c7 : x7_1.size + (a0.extract (x8_1 : Int).toNat ((wrap64 (x8_1 + 1)) : Int).toNat).size ≤ 9223372036854775807
       ·rw [if_pos c7] at H
        have c7b0 := eq_true c7
        have c7b1 : decide (x7_1.size + (a0.extract (x8_1 : Int).toNat ((wrap64 (x8_1 + 1)) : Int).toNat).size ≤ 9223372036854775807) = true := decide_eq_true c7
        try have c7b2 : (9223372036854775807 < x7_1.size + (a0.extract (x8_1 : Int).toNat ((wrap64 (x8_1 + 1)) : Int).toNat).size) = False := eq_false (Nat.not_lt.2 c7)
        replace H := Option.bind_eq_some_iff.mp H
        obtain ⟨t605, A80, H⟩ := H
        try dsimp only at H
        have A8 := Aside0.mk A80
        clear A80
        have H' := Aside0.mk H
        clear H
        go_wp2_with (first | ((with_reducible refine gate_callee (f := 81) rfl ?_); refine Short.goesS_ (some 23) Try.func81 #[.string (x7_1 ++ (a0.extract (x8_1 : Int).toNat ((wrap64 (x8_1 + 1)) : Int).toNat))] ?_; (with_reducible refine (offcutref01_cut.calls k1 (x7_1 ++ (a0.extract (x8_1 : Int).toNat ((wrap64 (x8_1 + 1)) : Int).toNat)) t605 _ A8.out).mono ?_); rintro e w' ⟨rfl, ⟨nd, rfl⟩⟩; refine ⟨_, rfl, ?_⟩))
        go_loopg [7, 9] k1 (fun kq v7 v9 w' => ∃ (x7_2 : ByteArray) (x9_2 : Int), v7 = .string x7_2 ∧ v9 = .int .i64 x9_2 ∧ Aside0 (offcutref01_DivMod.l1 kq a0 a1 x6_1 x7_2 x8_1 x9_2 = some (r1, r2)) ∧ Aside0 (kq ≤ k1) ∧ Drawn0 w w')
        case atStart => exact ⟨(t605), (0), (by first | rfl | (simp; done) | (simp [*]; done)), (by first | rfl | (simp; done) | (simp [*]; done)), H', ⟨Nat.le_refl _⟩, by repeat (first | exact Drawn0.refl _ | apply Drawn0.step)⟩
        case round =>
         clear H'
         try clear p2
         try clear c3
         try clear c3b0
         try clear c4
         try clear c4b0
         try clear c4b1
         try clear c5
         try clear c5b0
         try clear c5b1
         try clear c6
         try clear c6b0
         try clear c6b1
         try clear p6
         try clear c7
         try clear c7b0
         try clear c7b1
         try clear c7b2
         try clear c8
         try clear p2
         obtain ⟨x7_2, x9_2, rfl, rfl, HA, HK2, ⟨m2, rfl⟩⟩ := hrel
         cases gk with
         | zero => exact absurd HA.out (by simp [offcutref01_DivMod.l1])
         | succ k2 =>
          have H := HA.out
          clear HA
          simp only [offcutref01_DivMod.l1] at H
          replace H := Option.bind_eq_some_iff.mp H
          obtain ⟨t606, A90, H⟩ := H
          try dsimp only at H
          have A9 := Aside0.mk A90
          clear A90
          by_cases c10 : t606 = true
          ·subst c10
           have H1 : ((offcutref01_sign.f x9_2).bind fun t607 => (if x6_1.size + t607.size ≤ 9223372036854775807 then (offcutref01_DivMod.l0 k2 a0 a1 (x6_1 ++ t607) x7_2 (wrap64 (x8_1 + 1))) else (none))) = some (r1, r2) := by rw [if_pos rfl] at H; exact H
           clear H
           have H := H1
           clear H1
           replace H := Option.bind_eq_some_iff.mp H
           obtain ⟨t607, A110, H⟩ := H
           try dsimp only at H
           have A11 := Aside0.mk A110
           clear A110
           by_cases c12 : x6_1.size + t607.size ≤ 9223372036854775807
           ·rw [if_pos c12] at H
            have c12b0 := eq_true c12
            have c12b1 : decide (x6_1.size + t607.size ≤ 9223372036854775807) = true := decide_eq_true c12
            try have c12b2 : (9223372036854775807 < x6_1.size + t607.size) = False := eq_false (Nat.not_lt.2 c12)
            have H' := Aside0.mk H
            clear H
            go_wp2_with (first | ((with_reducible refine gate_callee (f := 57) rfl ?_); refine Short.goesS_ (some 26) Try.func57 #[.string x7_2, .string a1] ?_; (with_reducible refine (offcutref01_Less.calls x7_2 a1 true _ A9.out).mono ?_); rintro e w' ⟨rfl, ⟨nd, rfl⟩⟩; refine ⟨_, rfl, ?_⟩) | ((with_reducible refine gate_callee (f := 80) rfl ?_); refine Short.goesS_ (some 35) Try.func80 #[.int .i64 x9_2] ?_; (with_reducible refine (offcutref01_sign.calls x9_2 t607 _ A11.out).mono ?_); rintro e w' ⟨rfl, ⟨nd, rfl⟩⟩; refine ⟨_, rfl, ?_⟩))
            go_roundg k2
            case measure => have := HK1.out; have := HK2.out; omega
            case rel => exact ⟨(x6_1 ++ t607), (x7_2), (wrap64 (x8_1 + 1)), (by first | rfl | (simp; done) | (simp [*]; done)), (by first | rfl | (simp; done) | (simp [*]; done)), (by first | rfl | (simp; done) | (simp [*]; done)), H', ⟨by have := HK1.out; have := HK2.out; omega⟩, by repeat (first | exact Drawn0.refl _ | apply Drawn0.step)⟩
           ·rw [if_neg c12] at H
            exact absurd H (by simp)
          ·replace c10 := Bool.eq_false_iff.mpr c10
           subst c10
           have H1 : ((offcutref01_Sub.f k2 x7_2 a1).bind fun t608 => (offcutref01_DivMod.l1 k2 a0 a1 x6_1 t608 x8_1 (wrap64 (x9_2 + 1)))) = some (r1, r2) := by rw [if_neg (show ¬ (false = true) by decide)] at H; exact H
           clear H
           have H := H1
           clear H1
           replace H := Option.bind_eq_some_iff.mp H
           obtain ⟨t608, A130, H⟩ := H
           try dsimp only at H
           have A13 := Aside0.mk A130
           clear A130
           have H' := Aside0.mk H
           clear H
           go_wp2_with (first | ((with_reducible refine gate_callee (f := 57) rfl ?_); refine Short.goesS_ (some 26) Try.func57 #[.string x7_2, .string a1] ?_; (with_reducible refine (offcutref01_Less.calls x7_2 a1 false _ A9.out).mono ?_); rintro e w' ⟨rfl, ⟨nd, rfl⟩⟩; refine ⟨_, rfl, ?_⟩) | ((with_reducible refine gate_callee (f := 58) rfl ?_); refine Short.goesS_ (some 30) Try.func58 #[.string x7_2, .string a1] ?_; (with_reducible refine (offcutref01_Sub.calls k2 x7_2 a1 t608 _ A13.out).mono ?_); rintro e w' ⟨rfl, ⟨nd, rfl⟩⟩; refine ⟨_, rfl, ?_⟩))
           go_roundg k2
           case measure => have := HK1.out; have := HK2.out; omega
           case rel => exact ⟨(t608), (wrap64 (x9_2 + 1)), (by first | rfl | (simp; done) | (simp [*]; done)), (by first | rfl | (simp; done) | (simp [*]; done)), H', ⟨by have := HK1.out; have := HK2.out; omega⟩, by repeat (first | exact Drawn0.refl _ | apply Drawn0.step)⟩
       ·rw [if_neg c7] at H
        exact absurd H (by simp)
      ·rw [if_neg c6] at H
       exact absurd H (by simp)
     ·rw [if_neg c5] at H
      exact absurd H (by simp)
    ·rw [if_neg c4] at H
     exact absurd H (by simp)
   ·rw [if_neg c3] at H
    have c3b0 : decide (x8_1 < (a0.size : Int)) = false := decide_eq_false c3
    clear c3
    replace H := Option.bind_eq_some_iff.mp H
    obtain ⟨t604, A140, H⟩ := H
    replace H : (some (t604, x7_1)) = some (r1, r2) := H
    have A14 := Aside0.mk A140
    clear A140
    simp only [Option.some.injEq, Prod.mk.injEq] at H
    obtain ⟨rfl, rfl⟩ := H
    go_wp2_with (first | ((with_reducible refine gate_callee (f := 81) rfl ?_); refine Short.goesS_ (some 38) Try.func81 #[.string x6_1] ?_; (with_reducible refine (offcutref01_cut.calls k1 x6_1 t604 _ A14.out).mono ?_); rintro e w' ⟨rfl, ⟨nd, rfl⟩⟩; refine ⟨_, rfl, ?_⟩))
    go_ret2
    exact ⟨by first | rfl | (simp; done) | (simp [*]; done), by repeat (first | exact Drawn0.refl _ | apply Drawn0.step)⟩

/-- How often y goes into t: what is left, and the digit; then what follows. -/
theorem offcutref01_DivMod.ev_1 {x0 : ByteArray} {y : Nat} (hy : y ≠ 0) {qs : List Nat} (lq : qs.length < 1000000000) {i : Nat} (li : i < 1000000000) {r : ByteArray × ByteArray} {R n0 : Nat} (hR : R < y) (hn0 : n0 < 10)
  (next : Ev (fun k => offcutref01_DivMod.l0 k x0 (Dec.dec y) (Dec.tx (n0 :: qs)) (Dec.dec R) ((i + 1 : Nat) : Int)) r) (d : Nat) : ∀ (n : Nat), n + d = n0 → (Dec.dc (R + y * d)).length < 1000000000 →
  Ev (fun k => offcutref01_DivMod.l1 k x0 (Dec.dec y) (Dec.tx qs) (Dec.dec (R + y * d)) (i : Int) (n : Int)) r := by
 induction d with
 | zero =>
  intro n hn hl
  obtain rfl : n = n0 := by omega
  refine Ev.step (f := fun k => offcutref01_DivMod.l0 k x0 (Dec.dec y) (Dec.tx (n :: qs)) (Dec.dec R) ((i + 1 : Nat) : Int)) (fun k => ?_) next
  rw [offcutref01_DivMod.l1, offcutref01_Less.sem, Option.bind_some, Nat.mul_zero, Nat.add_zero, decide_eq_true hR, if_pos rfl, offcutref01_sign.sem _ hn0, Option.bind_some, Dec.tx_append, Dec.tx_size, Dec.tx_size, if_pos (by rw [List.length_singleton]; omega), Dec.w64s _ (by omega)]
  rfl
 | succ d ih =>
  intro n hn hl
  have hle : y ≤ R + y * (d + 1) := by rw [Nat.mul_succ]; omega
  have hs := offcutref01_Sub.ev_dec hle hl
  have e : R + y * (d + 1) - y = R + y * d := by rw [Nat.mul_succ]; omega
  rw [e] at hs
  have hl2 : (Dec.dc (R + y * d)).length < 1000000000 := by
   rcases Nat.lt_or_ge (Dec.dc (R + y * (d + 1))).length (Dec.dc (R + y * d)).length with h1 | h1
   ·have := Dec.dc_len_lt h1
    rw [Nat.mul_succ] at this
    omega
   ·omega
  refine Ev.step (f := fun k => (offcutref01_Sub.f k (Dec.dec (R + y * (d + 1))) (Dec.dec y)).bind fun t268 => (offcutref01_DivMod.l1 k x0 (Dec.dec y) (Dec.tx qs) t268 (i : Int) ((n + 1 : Nat) : Int))) (fun k => ?_) (Ev.bind hs (ih (n + 1) (by omega) hl2))
  rw [offcutref01_DivMod.l1, offcutref01_Less.sem, Option.bind_some, decide_eq_false (by omega), if_neg (by decide), Dec.w64s _ (by omega)]
theorem offcutref01_DivMod.ev_0 {a : List Nat} (ha : Dec.Ds a) (la : a.length < 100000000) {y : Nat} (hy : y ≠ 0) (ly : (Dec.dc y).length < 100000000) (d : Nat) : ∀ (qs : List Nat), qs.length + d = a.length → Dec.Ds qs → Dec.dv qs = Dec.dv (a.drop d) / y →
  Ev (fun k => offcutref01_DivMod.l0 k (Dec.tx a) (Dec.dec y) (Dec.tx qs) (Dec.dec (Dec.dv (a.drop d) % y)) (qs.length : Int)) (Dec.dec (Dec.dv a / y), Dec.dec (Dec.dv a % y)) := by
 induction d with
 | zero =>
  intro qs hl hq hv
  rw [List.drop_zero] at hv ⊢
  refine Ev.step (f := fun k => (offcutref01_cut.f k (Dec.tx qs)).bind fun t264 => (some (t264, Dec.dec (Dec.dv a % y)))) (fun k => ?_) ?_
  ·rw [offcutref01_DivMod.l0, Dec.tx_size, if_neg (by omega)]
  ·rw [← hv]
   exact Ev.bind (offcutref01_cut.ev hq) (Ev.now _)
 | succ d ih =>
  intro qs hl hq hv
  have hg := ha.getD d
  obtain ⟨g, hgd⟩ : ∃ g, g = a.getD d 0 := ⟨_, rfl⟩
  rw [← hgd] at hg
  obtain ⟨P, hP⟩ : ∃ P, P = Dec.dv (a.drop (d + 1)) := ⟨_, rfl⟩
  have hdrop : Dec.dv (a.drop d) = g + 10 * P := by
   rw [List.drop_eq_getElem_cons (by omega), Dec.dv, hP]
   have : a[d] = g := by rw [hgd, List.getD_eq_getElem?_getD, List.getElem?_eq_getElem (by omega)]; rfl
   rw [this]
  rw [← hP] at hv ⊢
  have hr := Nat.mod_lt P (Nat.pos_of_ne_zero hy)
  have hPe := Nat.div_add_mod P y
  obtain ⟨t, ht⟩ : ∃ t, t = g + 10 * (P % y) := ⟨_, rfl⟩
  have htot : Dec.dv (a.drop d) = t + y * (10 * (P / y)) := by
   rw [hdrop, ht]
   have h1 : y * (10 * (P / y)) = 10 * (y * (P / y)) := Nat.mul_left_comm _ _ _
   omega
  have hq1 : Dec.dv (a.drop d) / y = t / y + 10 * (P / y) := by rw [htot, Nat.add_mul_div_left _ _ (Nat.pos_of_ne_zero hy)]
  have hm1 : Dec.dv (a.drop d) % y = t % y := by rw [htot, Nat.add_mul_mod_self_left]
  have htl : t < 10 * y := by omega
  have hn : t / y < 10 := Nat.div_lt_of_lt_mul (by rw [Nat.mul_comm]; exact htl)
  have hte : t % y + y * (t / y) = t := Nat.mod_add_div t y
  have ht2 : (Dec.dc t).length ≤ (Dec.dc y).length + 1 := by
   have h1 := Dec.dv_lt (Dec.Ds_dc y)
   rw [Dec.dv_dc] at h1
   refine Dec.dc_length_le (by omega) ?_
   rw [Nat.pow_succ]
   omega
  have hrl : (Dec.dc (P % y)).length ≤ (Dec.dc y).length := by
   rcases Nat.lt_or_ge (Dec.dc y).length (Dec.dc (P % y)).length with h1 | h1
   ·have := Dec.dc_len_lt h1
    omega
   ·exact h1
  have hcut := offcutref01_cut.ev ((Dec.Ds_dc (P % y)).cons hg)
  rw [Dec.dv, Dec.dv_dc, ← ht] at hcut
  have hex : (Dec.tx a).extract qs.length (qs.length + 1) = Dec.tx [g] := by
   rw [Dec.tx_extract]
   unfold Dec.tx
   congr 2
   rw [show qs.length + 1 - qs.length = 1 from by omega, List.take_one, List.head?_drop, List.getElem?_map, List.getElem?_reverse (by omega), show a.length - 1 - qs.length = d from by omega, List.getElem?_eq_getElem (by omega), hgd, List.getD_eq_getElem?_getD, List.getElem?_eq_getElem (by omega)]
   rfl
  refine Ev.step (f := fun k => (offcutref01_cut.f k (Dec.tx (g :: Dec.dc (P % y)))).bind fun t265 => (offcutref01_DivMod.l1 k (Dec.tx a) (Dec.dec y) (Dec.tx qs) t265 (qs.length : Int) ((0 : Nat) : Int))) (fun k => ?_) (Ev.bind hcut ?_)
  ·rw [offcutref01_DivMod.l0, Dec.w64s _ (by omega), Int.toNat_natCast, Int.toNat_natCast, hex, Dec.tx_size, if_pos (by omega), if_pos (by omega), if_pos (by omega), if_pos (by omega), if_pos (by unfold Dec.dec; rw [Dec.tx_size, Dec.tx_size, List.length_singleton]; omega)]
   show (offcutref01_cut.f k (Dec.tx (Dec.dc (P % y)) ++ Dec.tx [g])).bind _ = _
   rw [Dec.tx_append]
   rfl
  ·have hnext := ih (t / y :: qs) (by rw [List.length_cons]; omega) (hq.cons hn) (by rw [Dec.dv, hv, hq1])
   rw [hm1, List.length_cons] at hnext
   have := offcutref01_DivMod.ev_1 (x0 := Dec.tx a) hy (qs := qs) (by omega) (i := qs.length) (by omega) (Nat.mod_lt t (Nat.pos_of_ne_zero hy)) hn hnext (t / y) 0 (by omega) (by rw [hte]; omega)
   rw [hte] at this
   exact this
theorem offcutref01_DivMod.ev {x y : Nat} (lx : (Dec.dc x).length < 100000000) (hy : y ≠ 0) (ly : (Dec.dc y).length < 100000000) : Ev (fun k => offcutref01_DivMod.f k (Dec.dec x) (Dec.dec y)) (Dec.dec (x / y), Dec.dec (x % y)) := by
 have := offcutref01_DivMod.ev_0 (Dec.Ds_dc x) lx hy ly (Dec.dc x).length [] (by rw [List.length_nil]; omega) Dec.Ds.nil (by rw [List.drop_length]; exact (Nat.zero_div y).symm)
 rw [List.drop_length, Dec.dv_dc, Dec.dv, Nat.zero_mod, Dec.dec_zero] at this
 exact this
/-! ### offcutref01_Gcd: function 63 -/
def offcutref01_Gcd.l0 : Nat → ByteArray → ByteArray → Option (ByteArray)
 | 0, _, _ => none
 | k + 1, x0, x1 => if x1.toList = ([48] : List UInt8) then (some x0) else ((offcutref01_DivMod.f k x0 x1).bind fun bt609 => (offcutref01_Gcd.l0 k x1 bt609.2))
def offcutref01_Gcd.f (k : Nat) (a0 : ByteArray) (a1 : ByteArray) : Option (ByteArray) := offcutref01_Gcd.l0 k a0 a1
set_option maxHeartbeats 8000000 in
set_option maxRecDepth 100000 in
theorem offcutref01_Gcd.calls (k : Nat) (a0 : ByteArray) (a1 : ByteArray) (r : ByteArray) (w : World) (h : offcutref01_Gcd.f k a0 a1 = some r) :
  Calls Try.prog 63 #[.string a0, .string a1] w fun e w' => e = .returned (.string r) ∧ Drawn0 w w' := by
 have H : (offcutref01_Gcd.l0 k a0 a1) = some r := h
 clear h
 have H' := Aside0.mk H
 clear H
 go_enter Try.func63, Try.ntmps63
 go_wp2
 go_loopg [0, 1] k (fun kq v0 v1 w' => ∃ (x0_1 : ByteArray) (x1_1 : ByteArray), v0 = .string x0_1 ∧ v1 = .string x1_1 ∧ Aside0 (offcutref01_Gcd.l0 kq x0_1 x1_1 = some r) ∧ Aside0 (kq ≤ k) ∧ Drawn0 w w')
 case atStart => exact ⟨(a0), (a1), (by first | rfl | (simp; done) | (simp [*]; done)), (by first | rfl | (simp; done) | (simp [*]; done)), H', ⟨Nat.le_refl _⟩, by repeat (first | exact Drawn0.refl _ | apply Drawn0.step)⟩
 case round =>
  clear H'
  try clear p2
  obtain ⟨x0_1, x1_1, rfl, rfl, HA, HK1, ⟨m1, rfl⟩⟩ := hrel
  cases gk with
  | zero => exact absurd HA.out (by simp [offcutref01_Gcd.l0])
  | succ k1 =>
   have H := HA.out
   clear HA
   simp only [offcutref01_Gcd.l0] at H
   by_cases c3 : x1_1.toList = ([48] : List UInt8)
   ·rw [if_pos c3] at H
    have c3b0 : (x1_1.toList == ([48] : List UInt8)) = true := beq_iff_eq.mpr c3
    have c3b1 : (x1_1.toList != ([48] : List UInt8)) = false := bne_eq_false_iff_eq.mpr c3
    clear c3
    obtain rfl := Option.some.inj H
    go_wp2
    go_ret
    exact ⟨by first | rfl | (simp; done) | (simp [*]; done), by repeat (first | exact Drawn0.refl _ | apply Drawn0.step)⟩
   ·rw [if_neg c3] at H
    have c3b0 : (x1_1.toList == ([48] : List UInt8)) = false := beq_eq_false_iff_ne.mpr c3
    have c3b1 : (x1_1.toList != ([48] : List UInt8)) = true := bne_iff_ne.mpr c3
    replace H := Option.bind_eq_some_iff.mp H
    obtain ⟨⟨t609, t610⟩, A40, H⟩ := H
    replace H : (offcutref01_Gcd.l0 k1 x1_1 t610) = some r := H
    have A4 := Aside0.mk A40
    clear A40
    have H' := Aside0.mk H
    clear H
    go_wp2_with (first | ((with_reducible refine gate_callee (f := 53) rfl ?_); refine Short.goesS_ (some 12) Try.func53 #[.string x0_1, .string x1_1] ?_; (with_reducible refine (offcutref01_DivMod.calls k1 x0_1 x1_1 t609 t610 _ A4.out).mono ?_); rintro e w' ⟨rfl, ⟨nd, rfl⟩⟩; refine ⟨_, rfl, ?_⟩))
    go_roundg k1
    case measure => have := HK1.out; omega
    case rel => exact ⟨(x1_1), (t610), (by first | rfl | (simp; done) | (simp [*]; done)), (by first | rfl | (simp; done) | (simp [*]; done)), H', ⟨by have := HK1.out; omega⟩, by repeat (first | exact Drawn0.refl _ | apply Drawn0.step)⟩

theorem offcutref01_Gcd.ev {K : Nat} (hK : K < 1000000) (hK1 : 1 ≤ K) (b : Nat) : ∀ a : Nat, a < 2 ^ (32 * K) → b < 2 ^ (32 * K) → Ev (fun k => offcutref01_Gcd.f k (Dec.dec a) (Dec.dec b)) (Dec.dec (Nat.gcd a b)) := by
 induction b using Nat.strongRecOn with
 | ind b ih =>
  intro a ha hb
  by_cases h0 : b = 0
  ·subst h0
   rw [Nat.gcd_zero_right]
   refine Ev.step (f := fun _ => some (Dec.dec a)) (fun k => ?_) (Ev.now _)
   show offcutref01_Gcd.l0 (k + 1) _ _ = _
   rw [offcutref01_Gcd.l0, if_pos ((Dec.dec_is0 0).2 rfl)]
  ·have la := Dec.dc_len32 hK1 ha
   have lb := Dec.dc_len32 hK1 hb
   have hm := Nat.mod_lt a (Nat.pos_of_ne_zero h0)
   refine Ev.step (f := fun k => (offcutref01_DivMod.f k (Dec.dec a) (Dec.dec b)).bind fun bt300 => (offcutref01_Gcd.l0 k (Dec.dec b) bt300.2)) (fun k => ?_) (Ev.bind (offcutref01_DivMod.ev (by omega) h0 (by omega)) ?_)
   ·show offcutref01_Gcd.l0 (k + 1) _ _ = _
    rw [offcutref01_Gcd.l0, if_neg (fun e => h0 ((Dec.dec_is0 b).1 e))]
   ·have := ih (a % b) hm b hb (Nat.lt_trans hm hb)
    rw [Nat.gcd_comm b (a % b), ← Nat.gcd_rec, Nat.gcd_comm b a] at this
    exact this
/-! ### offcutref03_Low: function 27 -/
def offcutref03_Low.j0 : Nat → ByteArray → ByteArray → ByteArray → Option (ByteArray × ByteArray)
 | 0, _, _, _ => none
 | k + 1, x0, x1, x5 => (offcutref01_Gcd.f k x5 x1).bind fun t613 => ((offcutref01_DivMod.f k x5 t613).bind fun bt614 => ((offcutref01_DivMod.f k x1 t613).bind fun bt616 => ((offcutref02_Below.f x0).bind fun t618 => ((offcutref02_Made.f t618 bt614.1).bind fun t619 => (some (t619, bt616.1))))))
def offcutref03_Low.f (k : Nat) (a0 : ByteArray) (a1 : ByteArray) : Option (ByteArray × ByteArray) := (offcutref02_Below.f a0).bind fun t612 => (if t612 = true then (if 1 ≤ (a0.size : Int) then (offcutref03_Low.j0 k a0 a1 (a0.extract 1 a0.size)) else (none)) else (offcutref03_Low.j0 k a0 a1 a0))
set_option maxHeartbeats 8000000 in
set_option maxRecDepth 100000 in
theorem offcutref03_Low.calls (k : Nat) (a0 : ByteArray) (a1 : ByteArray) (r1 : ByteArray) (r2 : ByteArray) (w : World) (h : offcutref03_Low.f k a0 a1 = some (r1, r2)) :
  Calls Try.prog 27 #[.string a0, .string a1] w fun e w' => e = .returned (.agg #[.string r1, .string r2]) ∧ Below w.heap.size w w' := by
 have hu34 := Try.underlying34
 have HB := Aside0.mk (Below.refl w.heap.size w)
 have H : ((offcutref02_Below.f a0).bind fun t612 => (if t612 = true then (if 1 ≤ (a0.size : Int) then (offcutref03_Low.j0 k a0 a1 (a0.extract 1 a0.size)) else (none)) else (offcutref03_Low.j0 k a0 a1 a0))) = some (r1, r2) := h
 clear h
 replace H := Option.bind_eq_some_iff.mp H
 obtain ⟨t612, A30, H⟩ := H
 try dsimp only at H
 have A3 := Aside0.mk A30
 clear A30
 have HC4 := Aside0.mk H
 clear H
 go_enter Try.func27, Try.ntmps27
 go_upto_if 13 with (first | ((with_reducible refine gate_dst (N := 4) rfl ?_); refine Short.boxS_ (N := 4) (cs := #[.string (⟨#[]⟩ : ByteArray), .string (⟨#[]⟩ : ByteArray)]) (t := 34) ?_; intro gb611 hg w5 hbox hb; have BK611 := Aside0.mk (hbox); have GW611 := Aside0.mk ((by rw [hg]; exact (below_size (by repeat (first | (with_reducible first | exact HB.out | apply below_alloc | apply pw_below_drewN | apply below_drew1) | exact HB.out))) : w.heap.size ≤ gb611)); have GE611 := Aside0.mk ((by rw [hg]; exact (below_size (by repeat (first | (with_reducible first | exact HB.out | apply below_alloc | apply pw_below_drewN | apply below_drew1) | exact HB.out))) : w.heap.size ≤ gb611)); replace HB := Aside0.mk (below_step (by repeat (first | (with_reducible first | exact HB.out | apply below_alloc | apply pw_below_drewN | apply below_drew1) | exact HB.out)) hb); clear hb hbox hg) | ((with_reducible refine gate_callee (f := 52) rfl ?_); refine Short.goesS_ (some 13) Try.func52 #[.string a0] ?_; (with_reducible refine (offcutref02_Below.calls a0 t612 _ A3.out).mono ?_); rintro e w' ⟨rfl, ⟨nd, rfl⟩⟩; refine ⟨_, rfl, ?_⟩))
 (try simp only [Act.put, List.setIfInBounds_toArray, List.set_cons_zero, List.set_cons_succ])
 go_cut [5] (fun v5 wc => ∃ (kq : Nat) (x5_3 : ByteArray), v5 = .string x5_3 ∧ Aside0 (offcutref03_Low.j0 kq a0 a1 x5_3 = some (r1, r2)) ∧ Aside0 (kq ≤ k) ∧ Aside0 (wc.heap[gb611]? = some (.cells #[.string (⟨#[]⟩ : ByteArray), .string (⟨#[]⟩ : ByteArray)] 34 (0, 0))) ∧ Aside0 (Below w.heap.size w wc))
 case first =>
  have H := HC4.out
  clear HC4
  by_cases c6 : t612 = true
  ·subst c6
   have H1 : (if 1 ≤ (a0.size : Int) then (offcutref03_Low.j0 k a0 a1 (a0.extract 1 a0.size)) else (none)) = some (r1, r2) := by rw [if_pos rfl] at H; exact H
   clear H
   have H := H1
   clear H1
   by_cases c7 : 1 ≤ (a0.size : Int)
   ·rw [if_pos c7] at H
    have c7b0 := eq_true c7
    have c7b1 : decide (1 ≤ (a0.size : Int)) = true := decide_eq_true c7
    clear c7
    have H' := Aside0.mk H
    clear H
    go_wp2
    go_meet
    case rel => exact ⟨_, (a0.extract 1 a0.size), (by first | rfl | (simp; done) | (simp [*]; done)), H', ⟨by first | omega | exact Nat.le_refl _⟩, ⟨by (with_reducible repeat (first | refine blk_drewN ?_ _ | refine blk_drew ?_ | refine blk_alloc ?_ _)); exact BK611.out⟩, ⟨by repeat (first | (with_reducible first | exact HB.out | apply below_alloc | apply pw_below_drewN | apply below_drew1 | refine below_set ?_ GE611.out) | exact HB.out)⟩⟩
   ·rw [if_neg c7] at H
    exact absurd H (by simp)
  ·replace c6 := Bool.eq_false_iff.mpr c6
   subst c6
   have H1 : (offcutref03_Low.j0 k a0 a1 a0) = some (r1, r2) := by rw [if_neg (show ¬ (false = true) by decide)] at H; exact H
   clear H
   have H := H1
   clear H1
   have H' := Aside0.mk H
   clear H
   go_wp2
   go_meet
   case rel => exact ⟨_, (a0), (by first | rfl | (simp; done) | (simp [*]; done)), H', ⟨by first | omega | exact Nat.le_refl _⟩, ⟨by (with_reducible repeat (first | refine blk_drewN ?_ _ | refine blk_drew ?_ | refine blk_alloc ?_ _)); exact BK611.out⟩, ⟨by repeat (first | (with_reducible first | exact HB.out | apply below_alloc | apply pw_below_drewN | apply below_drew1 | refine below_set ?_ GE611.out) | exact HB.out)⟩⟩
 case rest =>
  clear HC4
  try clear c2
  try clear p2
  try clear c5
  try clear c6
  try clear c7
  try clear c7b0
  try clear c7b1
  obtain ⟨kq, x5_3, rfl, HA, HJ3, BK611, HB⟩ := hcut
  cases kq with
  | zero => exact absurd HA.out (by simp [offcutref03_Low.j0])
  | succ kj3 =>
   have H := HA.out
   clear HA
   simp only [offcutref03_Low.j0] at H
   replace H := Option.bind_eq_some_iff.mp H
   obtain ⟨t613, A80, H⟩ := H
   try dsimp only at H
   have A8 := Aside0.mk A80
   clear A80
   replace H := Option.bind_eq_some_iff.mp H
   obtain ⟨⟨t614, t615⟩, A90, H⟩ := H
   try dsimp only at H
   have A9 := Aside0.mk A90
   clear A90
   replace H := Option.bind_eq_some_iff.mp H
   obtain ⟨⟨t616, t617⟩, A100, H⟩ := H
   try dsimp only at H
   have A10 := Aside0.mk A100
   clear A100
   replace H := Option.bind_eq_some_iff.mp H
   obtain ⟨t618, A110, H⟩ := H
   try dsimp only at H
   have A11 := Aside0.mk A110
   clear A110
   replace H := Option.bind_eq_some_iff.mp H
   obtain ⟨t619, A120, H⟩ := H
   replace H : (some (t619, t616)) = some (r1, r2) := H
   have A12 := Aside0.mk A120
   clear A120
   simp only [Option.some.injEq, Prod.mk.injEq] at H
   obtain ⟨rfl, rfl⟩ := H
   go_wp2_with (first | ((with_reducible refine gate_callee (f := 63) rfl ?_); refine Short.goesS_ (some 18) Try.func63 #[.string x5_3, .string a1] ?_; (with_reducible refine (offcutref01_Gcd.calls kj3 x5_3 a1 t613 _ A8.out).mono ?_); rintro e w' ⟨rfl, ⟨nd, rfl⟩⟩; refine ⟨_, rfl, ?_⟩; (try (rw [drewN_self wc]; generalize hq_ : World.drewN wc _ = wc; have n0_ : Aside0 (wc.heap[gb611]? = some (.cells #[.string (⟨#[]⟩ : ByteArray), .string (⟨#[]⟩ : ByteArray)] 34 (0, 0))) := ⟨by rw [← hq_]; exact BK611.out⟩; have n1_ : Aside0 (Below w.heap.size w wc) := ⟨by rw [← hq_]; exact HB.out⟩; clear BK611 HB hq_; have BK611 := n0_; have HB := n1_; clear n0_ n1_))) | ((with_reducible refine gate_callee (f := 53) rfl ?_); refine Short.goesS_ (some 22) Try.func53 #[.string x5_3, .string t613] ?_; (with_reducible refine (offcutref01_DivMod.calls kj3 x5_3 t613 t614 t615 _ A9.out).mono ?_); rintro e w' ⟨rfl, ⟨nd, rfl⟩⟩; refine ⟨_, rfl, ?_⟩; (try (rw [drewN_self wc]; generalize hq_ : World.drewN wc _ = wc; have n0_ : Aside0 (wc.heap[gb611]? = some (.cells #[.string (⟨#[]⟩ : ByteArray), .string (⟨#[]⟩ : ByteArray)] 34 (0, 0))) := ⟨by rw [← hq_]; exact BK611.out⟩; have n1_ : Aside0 (Below w.heap.size w wc) := ⟨by rw [← hq_]; exact HB.out⟩; clear BK611 HB hq_; have BK611 := n0_; have HB := n1_; clear n0_ n1_))) | ((with_reducible refine gate_callee (f := 53) rfl ?_); refine Short.goesS_ (some 28) Try.func53 #[.string a1, .string t613] ?_; (with_reducible refine (offcutref01_DivMod.calls kj3 a1 t613 t616 t617 _ A10.out).mono ?_); rintro e w' ⟨rfl, ⟨nd, rfl⟩⟩; refine ⟨_, rfl, ?_⟩; (try (rw [drewN_self wc]; generalize hq_ : World.drewN wc _ = wc; have n0_ : Aside0 (wc.heap[gb611]? = some (.cells #[.string (⟨#[]⟩ : ByteArray), .string (⟨#[]⟩ : ByteArray)] 34 (0, 0))) := ⟨by rw [← hq_]; exact BK611.out⟩; have n1_ : Aside0 (Below w.heap.size w wc) := ⟨by rw [← hq_]; exact HB.out⟩; clear BK611 HB hq_; have BK611 := n0_; have HB := n1_; clear n0_ n1_))) | ((with_reducible refine gate_callee (f := 52) rfl ?_); refine Short.goesS_ (some 32) Try.func52 #[.string a0] ?_; (with_reducible refine (offcutref02_Below.calls a0 t618 _ A11.out).mono ?_); rintro e w' ⟨rfl, ⟨nd, rfl⟩⟩; refine ⟨_, rfl, ?_⟩; (try (rw [drewN_self wc]; generalize hq_ : World.drewN wc _ = wc; have n0_ : Aside0 (wc.heap[gb611]? = some (.cells #[.string (⟨#[]⟩ : ByteArray), .string (⟨#[]⟩ : ByteArray)] 34 (0, 0))) := ⟨by rw [← hq_]; exact BK611.out⟩; have n1_ : Aside0 (Below w.heap.size w wc) := ⟨by rw [← hq_]; exact HB.out⟩; clear BK611 HB hq_; have BK611 := n0_; have HB := n1_; clear n0_ n1_))) | ((with_reducible refine gate_callee (f := 48) rfl ?_); refine Short.goesS_ (some 34) Try.func48 #[.bool t618, .string t614] ?_; (with_reducible refine (offcutref02_Made.calls t618 t614 t619 _ A12.out).mono ?_); rintro e w' ⟨rfl, ⟨nd, rfl⟩⟩; refine ⟨_, rfl, ?_⟩; (try (rw [drewN_self wc]; generalize hq_ : World.drewN wc _ = wc; have n0_ : Aside0 (wc.heap[gb611]? = some (.cells #[.string (⟨#[]⟩ : ByteArray), .string (⟨#[]⟩ : ByteArray)] 34 (0, 0))) := ⟨by rw [← hq_]; exact BK611.out⟩; have n1_ : Aside0 (Below w.heap.size w wc) := ⟨by rw [← hq_]; exact HB.out⟩; clear BK611 HB hq_; have BK611 := n0_; have HB := n1_; clear n0_ n1_)); have hcz13_0 : wc.cell? ⟨gb611, 0, none⟩ = some (.string (⟨#[]⟩ : ByteArray)) := (blk_cell BK611.out 0).trans rfl; have hcz13_1 : wc.cell? ⟨gb611, 1, none⟩ = some (.string (⟨#[]⟩ : ByteArray)) := (blk_cell BK611.out 1).trans rfl; have hfz13_0 := blk_frozen BK611.out 0; have hfz13_1 := blk_frozen BK611.out 1))
   refine bodyPost_ret (results_cell_row rfl _ _ gb611 34 #[.string t619, .string t616] (0, 0) _ rfl (by (with_reducible repeat (first | refine blk_drewN ?_ _ | refine blk_drew ?_ | refine blk_alloc ?_ _)); refine blk_put (cs := #[.string t619, .string (⟨#[]⟩ : ByteArray)]) ?_ 1 _ rfl; (with_reducible repeat (first | refine blk_drewN ?_ _ | refine blk_drew ?_ | refine blk_alloc ?_ _)); refine blk_put (cs := #[.string (⟨#[]⟩ : ByteArray), .string (⟨#[]⟩ : ByteArray)]) ?_ 0 _ rfl; (with_reducible repeat (first | refine blk_drewN ?_ _ | refine blk_drew ?_ | refine blk_alloc ?_ _)); exact BK611.out) Try.underlying34 rfl (by kernel_rfl)) rfl ?_
   exact ⟨by rfl, by repeat (first | (with_reducible first | exact HB.out | apply below_alloc | apply pw_below_drewN | apply below_drew1 | refine below_set ?_ GE611.out) | exact HB.out)⟩

theorem offcutref03_Low.ev {p : Int} {q K : Nat} (hp : p.natAbs < 2 ^ (32 * K)) (hq : q < 2 ^ (32 * K)) (q0 : q ≠ 0) (hK1 : 1 ≤ K) (hK : K < 400000) : Ev (fun k => offcutref03_Low.f k (Zn.tz p) (Dec.dec q)) (Zn.tz (mkRat p q).num, Dec.dec (mkRat p q).den) := by
 obtain ⟨g, hg⟩ : ∃ g, g = Nat.gcd p.natAbs q := ⟨_, rfl⟩
 have G := offcutref01_Gcd.ev (K := K) (by omega) hK1 q p.natAbs hp hq
 rw [← hg] at G
 have g0 : g ≠ 0 := by
  have := Nat.gcd_pos_of_pos_right p.natAbs (Nat.pos_of_ne_zero q0)
  omega
 have bg : g < 2 ^ (32 * K) := Nat.lt_of_le_of_lt (Nat.le_of_dvd (Nat.pos_of_ne_zero q0) (by rw [hg]; exact Nat.gcd_dvd_right _ _)) hq
 have lp := Dec.dc_len32 hK1 hp
 have lq := Dec.dc_len32 hK1 hq
 have lg := Dec.dc_len32 hK1 bg
 have D1 := offcutref01_DivMod.ev (x := p.natAbs) (y := g) (by omega) g0 (by omega)
 have D2 := offcutref01_DivMod.ev (x := q) (y := g) (by omega) g0 (by omega)
 have ld := Dec.dc_len32 hK1 (Nat.lt_of_le_of_lt (Nat.div_le_self p.natAbs g) hp)
 have Md := offcutref02_Made.sem (decide (p < 0)) (p.natAbs / g) (by omega)
 have e1 := Qn.num_eq (decide (p < 0)) p.natAbs q q0
 have e2 := Qn.den_eq (decide (p < 0)) p.natAbs q q0
 rw [← hg, Zn.zv_self] at e1 e2
 rw [← e1] at Md
 rw [← e2] at D2
 have J : Ev (fun k => offcutref03_Low.j0 k (Zn.tz p) (Dec.dec q) (Dec.dec p.natAbs)) (Zn.tz (mkRat p q).num, Dec.dec (mkRat p q).den) := by
  refine Ev.step (f := fun k => (offcutref01_Gcd.f k (Dec.dec p.natAbs) (Dec.dec q)).bind fun t613 => (offcutref01_DivMod.f k (Dec.dec p.natAbs) t613).bind fun bt614 => (offcutref01_DivMod.f k (Dec.dec q) t613).bind fun bt616 => (offcutref02_Below.f (Zn.tz p)).bind fun t618 => (offcutref02_Made.f t618 bt614.1).bind fun t619 => some (t619, bt616.1)) (fun k => by rw [offcutref03_Low.j0]) ?_
  exact Ev.bind G (Ev.bind D1 (Ev.bind D2 (Dec.val (fun _ => offcutref02_Below.sem p) (Dec.val (fun _ => Md) (Ev.now _)))))
 unfold offcutref03_Low.f
 refine Dec.val (fun _ => offcutref02_Below.sem p) ?_
 by_cases h : p < 0
 ·have e : (Zn.tz p).extract 1 (Zn.tz p).size = Dec.dec p.natAbs := by rw [Zn.tz_neg h, Zn.minus_tail]
  have hs := Zn.tz_size_pos p
  rw [← e] at J
  exact Dec.yes (decide_eq_true h) (Dec.yes (by omega) J)
 ·have e : Zn.tz p = Dec.dec p.natAbs := Zn.tz_pos h
  rw [← e] at J
  exact Dec.no (by rw [decide_eq_false h]; decide) J
/-! ### offcutref01_Mul: function 51 -/
mutual
def offcutref01_Mul.l0 : Nat → ByteArray → ByteArray → List Int → Int → Option (ByteArray)
 | 0, _, _, _, _ => none
 | k + 1, x0, x1, x5, x6 => if x6 < (x0.size : Int) then (offcutref01_Mul.l1 k x0 x1 x5 x6 0) else (offcutref01_Mul.l2 k x5 (⟨#[]⟩ : ByteArray) 0 0)
def offcutref01_Mul.l1 : Nat → ByteArray → ByteArray → List Int → Int → Int → Option (ByteArray)
 | 0, _, _, _, _, _ => none
 | k + 1, x0, x1, x5, x6, x7 => if x7 < (x1.size : Int) then (if 0 ≤ (wrap64 (x6 + x7)) then (if (wrap64 (x6 + x7)) < (x5.length : Int) then ((offcutref01_at.f x0 x6).bind fun t624 => ((offcutref01_at.f x1 x7).bind fun t625 => (offcutref01_Mul.l1 k x0 x1 (x5.set ((wrap64 (x6 + x7)) : Int).toNat (wrap64 ((rd x5 (wrap64 (x6 + x7))) + (wrap64 (t624 * t625))))) x6 (wrap64 (x7 + 1))))) else (none)) else (none)) else (offcutref01_Mul.l0 k x0 x1 x5 (wrap64 (x6 + 1)))
def offcutref01_Mul.l2 : Nat → List Int → ByteArray → Int → Int → Option (ByteArray)
 | 0, _, _, _, _ => none
 | k + 1, x5, x8, x9, x10 => if x10 < (x5.length : Int) then (if 0 ≤ x10 then ((offcutref01_sign.f (Int.tmod (wrap64 ((rd x5 x10) + x9)) 10)).bind fun t628 => (if t628.size + x8.size ≤ 9223372036854775807 then (offcutref01_Mul.l2 k x5 (t628 ++ x8) (wrap64 (Int.tdiv (wrap64 ((rd x5 x10) + x9)) 10)) (wrap64 (x10 + 1))) else (none))) else (none)) else ((offcutref01_cut.f k x8).bind fun t629 => (some t629))
end
def offcutref01_Mul.f (k : Nat) (a0 : ByteArray) (a1 : ByteArray) : Option (ByteArray) := if 0 ≤ (wrap64 ((wrap64 ((a0.size : Int) + (a1.size : Int))) + 1)) then (if (wrap64 ((wrap64 ((a0.size : Int) + (a1.size : Int))) + 1) : Int).toNat ≤ 35184372088832 then (offcutref01_Mul.l0 k a0 a1 (List.replicate (wrap64 ((wrap64 ((a0.size : Int) + (a1.size : Int))) + 1) : Int).toNat 0) 0) else (none)) else (none)
def offcutref01_Mul.T8 : Bool × List (List Nat × List Nat) := (true, [([], []), ([], []), ([], []), ([1, 2], [1, 2]), ([], []), ([], []), ([], []), ([5, 6], [5, 6]), ([4, 7], [4, 7]), ([8], [8]), ([], []), ([], []), ([10, 11], [10, 11]), ([], []), ([], []), ([13, 14, 12], [13, 14]), ([12, 15], [12, 15]), ([9, 16], [9, 16]), ([0, 3, 0, 1, 2, 3, 4, 5, 6, 7, 8, 9, 10, 11, 12, 13, 14, 15, 16, 17], [0, 3]), ([18, 17, 15, 0, 1, 2, 3, 4, 5, 6, 7, 8, 9, 10, 11, 12, 13, 14, 15, 16, 17], [17, 18])])
def offcutref01_Mul.B8 : List Nat := [0, 0, 0, 6, 0, 0, 0, 96, 240, 496, 0, 0, 3072, 0, 0, 31744, 64512, 131056, 262143, 524287]
theorem offcutref01_Mul.tab8 : rtab .any (opsOf Try.f51 8) = offcutref01_Mul.T8 := by kernel_rfl
theorem offcutref01_Mul.bits8 : waitsOk offcutref01_Mul.T8.2 offcutref01_Mul.B8 = true := by kernel_rfl
set_option maxHeartbeats 8000000 in
set_option maxRecDepth 100000 in
theorem offcutref01_Mul.calls (k : Nat) (a0 : ByteArray) (a1 : ByteArray) (r : ByteArray) (w : World) (h : offcutref01_Mul.f k a0 a1 = some r) :
  Calls Try.prog 51 #[.string a0, .string a1] w fun e w' => e = .returned (.string r) ∧ Below w.heap.size w w' := by
 have HB := Aside0.mk (Below.refl w.heap.size w)
 have H : (if 0 ≤ (wrap64 ((wrap64 ((a0.size : Int) + (a1.size : Int))) + 1)) then (if (wrap64 ((wrap64 ((a0.size : Int) + (a1.size : Int))) + 1) : Int).toNat ≤ 35184372088832 then (offcutref01_Mul.l0 k a0 a1 (List.replicate (wrap64 ((wrap64 ((a0.size : Int) + (a1.size : Int))) + 1) : Int).toNat 0) 0) else (none)) else (none)) = some r := h
 clear h
 obtain ⟨ji3, hji3⟩ : ∃ j_ : Int, (wrap64 ((wrap64 ((a0.size : Int) + (a1.size : Int))) + 1)) = j_ := ⟨_, rfl⟩
 replace H : (if 0 ≤ (ji3) then (if (ji3 : Int).toNat ≤ 35184372088832 then (offcutref01_Mul.l0 k a0 a1 (List.replicate (ji3 : Int).toNat 0) 0) else (none)) else (none)) = some r := by first | (rw [hji3] at H; exact H) | (simp only [hji3] at H ⊢; exact H)
 have hji3w : (IntKind.i64.wrap ((wrap64 ((a0.size : Int) + (a1.size : Int))) + 1)) = ji3 := (i64_w _).trans hji3
 by_cases c4 : 0 ≤ (ji3)
 ·rw [if_pos c4] at H
  have c4b0 := eq_true c4
  have c4b1 : decide (0 ≤ (ji3)) = true := decide_eq_true c4
  clear c4
  by_cases c5 : (ji3 : Int).toNat ≤ 35184372088832
  ·rw [if_pos c5] at H
   have c5b0 := eq_true c5
   have c5b1 : decide ((ji3 : Int).toNat ≤ 35184372088832) = true := decide_eq_true c5
   clear c5
   obtain ⟨y620, hy620⟩ : ∃ y_ : List Int, y_ = (List.replicate (ji3 : Int).toNat 0) := ⟨_, rfl⟩
   replace H : (offcutref01_Mul.l0 k a0 a1 y620 0) = some r := by first | (rw [hy620]; with_reducible exact H) | (have H2_ := (Option.bind_some _ _).symm.trans H; rw [hy620]; with_reducible exact H2_) | (have H2_ := (Option.bind_some _ _).symm.trans H; with_reducible exact H2_) | with_reducible exact H | (rw [hy620]; exact H) | exact H
   have Ny620 := Aside0.mk hy620
   clear hy620
   have H' := Aside0.mk H
   clear H
   go_enter Try.func51, Try.ntmps51
   go_wp2_with (first | ((with_reducible refine gate_dst (N := 18) rfl ?_); refine Kd.R_make (Kd.int .i64) _ 3 rfl (N := 18) rfl 101 _ _ rfl ji3 rfl rfl Try.underlying101 (.int .i64 0) 8 info3 rfl (by decide) (by omega) 0 (ok := fun _ => True) (okp := fun _ => True) rfl (fun _ hk => hk) trivial (of_decide_eq_true (by first | (with_reducible assumption) | assumption)) (Nat.le_trans (Nat.mul_le_mul_right _ (of_decide_eq_true (by first | (with_reducible assumption) | assumption) : ji3.toNat ≤ 35184372088832)) (by omega)) (Below.refl _ _) (Nat.le_refl _) ?_; intro v621 w6 ho7 hb hg_ hnew_; clear hg_ hnew_; (first | rw [← Ny620.out] at ho7 | (simp only [Int.reduceToNat] at ho7; rw [← Ny620.out] at ho7)); have HO622 := Aside0.mk (Kd.R_lower ho7 (below_size (by repeat (first | (with_reducible first | exact HB.out | apply below_alloc | apply pw_below_drewN | apply below_drew1) | exact HB.out)))); replace HB := Aside0.mk (below_step (by repeat (first | (with_reducible first | exact HB.out | apply below_alloc | apply pw_below_drewN | apply below_drew1) | exact HB.out)) hb); clear hb ho7))
   go_loopg [6] k (fun kq v6 w' => ∃ (x5_1 : List Int) (x6_1 : Int), v6 = .int .i64 x6_1 ∧ Aside0 (offcutref01_Mul.l0 kq a0 a1 x5_1 x6_1 = some r) ∧ Aside0 (kq ≤ k) ∧ Aside0 (Kd.R (Kd.int .i64) 3 w' w.heap.size (fun _ => True) v621 x5_1) ∧ Aside0 (Below w.heap.size w w'))
   case atStart => exact ⟨(y620), (0), (by first | rfl | (simp; done) | (simp [*]; done)), H', ⟨Nat.le_refl _⟩, ⟨by (with_reducible repeat (first | apply Kd.R_alloc | apply Kd.R_drewN | apply Kd.R_drew)); exact HO622.out⟩, ⟨by repeat (first | (with_reducible first | exact HB.out | apply below_alloc | apply pw_below_drewN | apply below_drew1) | exact HB.out)⟩⟩
   case round =>
    clear H'
    try clear p2
    try clear c4
    try clear c4b0
    try clear c4b1
    try clear c5
    try clear c5b0
    try clear c5b1
    try clear p6
    obtain ⟨x5_1, x6_1, rfl, HA, HK1, HO_5, HB⟩ := hrel
    cases gk with
    | zero => exact absurd HA.out (by simp [offcutref01_Mul.l0])
    | succ k1 =>
     have H := HA.out
     clear HA
     simp only [offcutref01_Mul.l0] at H
     by_cases c8 : x6_1 < (a0.size : Int)
     ·rw [if_pos c8] at H
      have c8b0 : decide (x6_1 < (a0.size : Int)) = true := decide_eq_true c8
      clear c8
      have H' := Aside0.mk H
      clear H
      go_wp2
      go_loopg [7] k1 (fun kq v7 w' => ∃ (x5_2 : List Int) (x7_2 : Int), v7 = .int .i64 x7_2 ∧ Aside0 (offcutref01_Mul.l1 kq a0 a1 x5_2 x6_1 x7_2 = some r) ∧ Aside0 (kq ≤ k1) ∧ Aside0 (Kd.R (Kd.int .i64) 3 w' w.heap.size (fun _ => True) v621 x5_2) ∧ Aside0 (Below w.heap.size w w'))
      case atStart => exact ⟨(x5_1), (0), (by first | rfl | (simp; done) | (simp [*]; done)), H', ⟨Nat.le_refl _⟩, ⟨by (with_reducible repeat (first | apply Kd.R_alloc | apply Kd.R_drewN | apply Kd.R_drew)); exact HO_5.out⟩, ⟨by repeat (first | (with_reducible first | exact HB.out | apply below_alloc | apply pw_below_drewN | apply below_drew1) | exact HB.out)⟩⟩
      case round =>
       clear H'
       try clear p2
       try clear c4
       try clear c4b0
       try clear c4b1
       try clear c5
       try clear c5b0
       try clear c5b1
       try clear p6
       try clear c8
       try clear c8b0
       try clear p2
       try clear p6
       obtain ⟨x5_2, x7_2, rfl, HA, HK2, HO_5, HB⟩ := hrel
       cases gk with
       | zero => exact absurd HA.out (by simp [offcutref01_Mul.l1])
       | succ k2 =>
        have H := HA.out
        clear HA
        simp only [offcutref01_Mul.l1] at H
        by_cases c9 : x7_2 < (a1.size : Int)
        ·rw [if_pos c9] at H
         have c9b0 : decide (x7_2 < (a1.size : Int)) = true := decide_eq_true c9
         clear c9
         obtain ⟨ji10, hji10⟩ : ∃ j_ : Int, (wrap64 (x6_1 + x7_2)) = j_ := ⟨_, rfl⟩
         replace H : (if 0 ≤ (ji10) then (if (ji10) < (x5_2.length : Int) then ((offcutref01_at.f a0 x6_1).bind fun t624 => ((offcutref01_at.f a1 x7_2).bind fun t625 => (offcutref01_Mul.l1 k2 a0 a1 (x5_2.set ((ji10) : Int).toNat (wrap64 ((rd x5_2 (ji10)) + (wrap64 (t624 * t625))))) x6_1 (wrap64 (x7_2 + 1))))) else (none)) else (none)) = some r := by first | (rw [hji10] at H; exact H) | (simp only [hji10] at H ⊢; exact H)
         have hji10w : (IntKind.i64.wrap (x6_1 + x7_2)) = ji10 := (i64_w _).trans hji10
         by_cases c11 : 0 ≤ (ji10)
         ·rw [if_pos c11] at H
          have c11b0 : decide (0 ≤ (ji10)) = true := decide_eq_true c11
          clear c11
          by_cases c12 : (ji10) < (x5_2.length : Int)
          ·rw [if_pos c12] at H
           have c12b0 : decide ((ji10) < (x5_2.length : Int)) = true := decide_eq_true c12
           clear c12
           replace H := Option.bind_eq_some_iff.mp H
           obtain ⟨t624, A130, H⟩ := H
           try dsimp only at H
           have A13 := Aside0.mk A130
           clear A130
           replace H := Option.bind_eq_some_iff.mp H
           obtain ⟨t625, A140, H⟩ := H
           try dsimp only at H
           have A14 := Aside0.mk A140
           clear A140
           obtain ⟨y626, hy626⟩ : ∃ y_ : List Int, y_ = (x5_2.set ((ji10) : Int).toNat (wrap64 ((rd x5_2 (ji10)) + (wrap64 (t624 * t625))))) := ⟨_, rfl⟩
           replace H : (offcutref01_Mul.l1 k2 a0 a1 y626 x6_1 (wrap64 (x7_2 + 1))) = some r := by first | (rw [hy626]; with_reducible exact H) | (have H2_ := (Option.bind_some _ _).symm.trans H; rw [hy626]; with_reducible exact H2_) | (have H2_ := (Option.bind_some _ _).symm.trans H; with_reducible exact H2_) | with_reducible exact H | (rw [hy626]; exact H) | exact H
           have Ny626 := Aside0.mk hy626
           clear hy626
           have H' := Aside0.mk H
           clear H
           try go_wp2
           replace HO_5 := Aside0.mk (Kd.R_drew HO_5.out)
           replace HB := Aside0.mk (below_drew1 HB.out)
           obtain ⟨Ao17, co17, eo17⟩ := Kd.R_slice HO_5.out
           (first | subst eo17 | (injection eo17 with f1_ f2_ f3_; have f4_ := f1_.symm; have f5_ := f3_.symm; clear f1_ f2_ f3_; subst f4_; subst f5_))
           have p623 : 0 ≤ ((ji10) : Int) := of_decide_eq_true (by first | (with_reducible assumption) | assumption)
           have q623 : (ji10) < (x5_2.length : Int) := of_decide_eq_true (by first | (with_reducible assumption) | assumption)
           obtain ⟨ad623, e623, hx623_0⟩ := Kd.at_int (Kd.R_reads' HO_5.out).2.2 (ji10) p623 q623
           cases e623
           replace p623 := eq_true p623
           replace q623 := eq_true q623
           refine start_ (n := 20) (S := fun w' => w'.cell? (ad623.add ((ji10)).toNat) = some (.int .i64 (rd x5_2 (ji10)))) (ds := [19]) #[false, false, false, false, false, false, false, false, false, false, false, false, false, false, false, false, false, false, false, false] (by kernel_rfl) rfl rfl (hx623_0) (fun hHeld => ?_); refine with_tabW offcutref01_Mul.tab8 offcutref01_Mul.bits8 (fun HT_ HW_ => ?_)
           generalize wr.drew = w16 at HO_5 HB hx623_0 hHeld ⊢
           refine Short.pureS_ (i := 0) (N := some 31) #[true, false, false, false, false, false, false, false, false, false, false, false, false, false, false, false, false, false, false, false] (any_of HT_.out (by kernel_rfl)) ?_
           refine Short.pureS_ (i := 1) (N := some 32) #[true, true, false, false, false, false, false, false, false, false, false, false, false, false, false, false, false, false, false, false] (any_of HT_.out (by kernel_rfl)) ?_
           refine Short.pureS_ (i := 2) (N := some 33) #[true, true, true, false, false, false, false, false, false, false, false, false, false, false, false, false, false, false, false, false] (any_of HT_.out (by kernel_rfl)) ?_
           refine Short.pureS_ (i := 3) (N := some 34) #[true, true, true, true, false, false, false, false, false, false, false, false, false, false, false, false, false, false, false, false] (any_of HT_.out (by kernel_rfl)) ?_
           refine Short.pureS_ (i := 4) (N := some 35) #[true, true, true, true, true, false, false, false, false, false, false, false, false, false, false, false, false, false, false, false] (any_of HT_.out (by kernel_rfl)) ?_
           refine Short.pureS_ (i := 5) (N := some 36) #[true, true, true, true, true, true, false, false, false, false, false, false, false, false, false, false, false, false, false, false] (any_of HT_.out (by kernel_rfl)) ?_
           refine Short.pureS_ (i := 6) (N := some 37) #[true, true, true, true, true, true, true, false, false, false, false, false, false, false, false, false, false, false, false, false] (any_of HT_.out (by kernel_rfl)) ?_
           refine Short.pureS_ (i := 7) (N := some 38) #[true, true, true, true, true, true, true, true, false, false, false, false, false, false, false, false, false, false, false, false] (any_of HT_.out (by kernel_rfl)) ?_
           refine Short.pureS_ (i := 8) (N := some 39) #[true, true, true, true, true, true, true, true, true, false, false, false, false, false, false, false, false, false, false, false] (any_of HT_.out (by kernel_rfl)) ?_
           refine Short.pureS_ (i := 10) (N := some 41) #[true, true, true, true, true, true, true, true, true, false, true, false, false, false, false, false, false, false, false, false] (any_of HT_.out (by kernel_rfl)) ?_
           refine Short.pureS_ (i := 11) (N := some 42) #[true, true, true, true, true, true, true, true, true, false, true, true, false, false, false, false, false, false, false, false] (any_of HT_.out (by kernel_rfl)) ?_
           refine Short.pureS_ (i := 13) (N := some 44) #[true, true, true, true, true, true, true, true, true, false, true, true, false, true, false, false, false, false, false, false] (any_of HT_.out (by kernel_rfl)) ?_
           refine Short.pureS_ (i := 14) (N := some 45) #[true, true, true, true, true, true, true, true, true, false, true, true, false, true, true, false, false, false, false, false] (any_of HT_.out (by kernel_rfl)) ?_
           refine take_ (i := 9) (N := some 40) (v := ?_) (a' := ?_) #[true, true, true, true, true, true, true, true, true, true, true, true, false, true, true, false, false, false, false, false] rfl rfl (take_ofW HT_.out HW_.out (by kernel_rfl)) (fun _ _ _ h => h) (Or.inl ⟨by rfl, ?_⟩) hHeld ?_ ?_
           rotate_left
           ·intro w' s0
            go_simp
            with_reducible rfl
           rotate_left
           ·simp only [Act.put, List.setIfInBounds_toArray, List.set_cons_zero, List.set_cons_succ, i64_w, i32_w]
            rfl
           refine one_ (i := 12) (N := some 43) #[true, true, true, true, true, true, true, true, true, true, true, true, true, true, true, false, false, false, false, false] rfl rfl (one_of HT_.out (by kernel_rfl)) (by decide) (fun K hK => ?_)
           refine Short.goesD_ Try.func82 #[.string a0, .int .i64 x6_1] ?_
           with_reducible refine (offcutref01_at.calls a0 x6_1 t624 _ A13.out).mono ?_
           rintro e w' ⟨rfl, ⟨nd, rfl⟩⟩
           refine ⟨_, rfl, ?_⟩
           refine hK.out _ _ (hHeld) (fun hHeld => ?_)
           clear hK K
           refine Short.normS_ ?_
           refine one_ (i := 15) (N := some 46) #[true, true, true, true, true, true, true, true, true, true, true, true, true, true, true, true, false, false, false, false] rfl rfl (one_of HT_.out (by kernel_rfl)) (by decide) (fun K hK => ?_)
           refine Short.goesD_ Try.func82 #[.string a1, .int .i64 x7_2] ?_
           with_reducible refine (offcutref01_at.calls a1 x7_2 t625 _ A14.out).mono ?_
           rintro e w' ⟨rfl, ⟨nd, rfl⟩⟩
           refine ⟨_, rfl, ?_⟩
           have p15 : 0 ≤ ((ji10) : Int) := of_decide_eq_true (by first | (with_reducible assumption) | assumption)
           have q15 : ((ji10) : Int) < ((x5_2.length : Int) : Int) := of_decide_eq_true (by first | (with_reducible assumption) | assumption)
           obtain ⟨go15, co15, eo15, gb15, gl15, cl15, HG15⟩ := Kd.R_form HO_5.out (by omega)
           (first | cases eo15 | (injection eo15 with ea_ en_ ec_; (first | subst ea_ | (injection ea_ with ea_; subst ea_)); subst ec_; clear en_))
           have GB15 := Aside0.mk gb15
           have GG15 := Aside0.mk HG15
           clear gb15 gl15 HG15
           (first | simp only [add_plain] at hx623_0 | skip)
           obtain ⟨hx15_0, hf15_0⟩ := Kd.R_celln 0 HO_5.out ((ji10) : Int) p15 q15
           replace p15 := eq_true p15
           replace q15 := eq_true q15
           have HP18 := Kd.R_putn HO_5.out ((ji10) : Int) (wrap64 ((rd x5_2 (ji10)) + (wrap64 (t624 * t625))))
           rw [← Ny626.out] at HP18
           have HQ18 := Aside0.mk HP18
           clear HP18
           refine hK.out _ _ (hHeld) (fun hHeld => ?_)
           clear hK K
           refine Short.normS_ ?_
           refine Short.pureS_ (i := 16) (N := some 47) #[true, true, true, true, true, true, true, true, true, true, true, true, true, true, true, true, true, false, false, false] (any_of HT_.out (by kernel_rfl)) ?_
           refine Short.pureS_ (i := 17) (N := some 48) #[true, true, true, true, true, true, true, true, true, true, true, true, true, true, true, true, true, true, false, false] (any_of HT_.out (by kernel_rfl)) ?_
           refine Short.pureS_ (i := 18) (N := some 49) #[true, true, true, true, true, true, true, true, true, true, true, true, true, true, true, true, true, true, true, false] (any_of HT_.out (by kernel_rfl)) ?_
           refine last_ (i := 19) (N := none) #[true, true, true, true, true, true, true, true, true, true, true, true, true, true, true, true, true, true, true, true] rfl rfl (one_of HT_.out (by kernel_rfl)) (by decide) (fun K hK => ?_)
           refine skip_ (w1 := ?_) (by rfl) rfl ?_ ?_
           rotate_left
           ·go_simp
            rfl
           refine hK.out _ _ ?_
           clear hK K
           refine done_ (done_of HT_.out (by kernel_rfl)) ?_
           try go_wp2
           go_roundg k2
           case measure => have := HK1.out; have := HK2.out; omega
           case rel => exact ⟨(y626), (wrap64 (x7_2 + 1)), (by first | rfl | (simp; done) | (simp [*]; done)), H', ⟨by have := HK1.out; have := HK2.out; omega⟩, ⟨by (with_reducible repeat (first | apply Kd.R_alloc | apply Kd.R_drewN | apply Kd.R_drew)); exact HQ18.out⟩, ⟨by repeat (first | (with_reducible first | exact HB.out | apply below_alloc | apply pw_below_drewN | apply below_drew1 | refine below_set ?_ GB15.out) | exact HB.out)⟩⟩
          ·rw [if_neg c12] at H
           exact absurd H (by simp)
         ·rw [if_neg c11] at H
          exact absurd H (by simp)
        ·rw [if_neg c9] at H
         have c9b0 : decide (x7_2 < (a1.size : Int)) = false := decide_eq_false c9
         clear c9
         have H' := Aside0.mk H
         clear H
         go_wp2
         go_roundg k2
         case measure => have := HK1.out; have := HK2.out; omega
         case rel => exact ⟨(x5_2), (wrap64 (x6_1 + 1)), (by first | rfl | (simp; done) | (simp [*]; done)), H', ⟨by have := HK1.out; have := HK2.out; omega⟩, ⟨by (with_reducible repeat (first | apply Kd.R_alloc | apply Kd.R_drewN | apply Kd.R_drew)); exact HO_5.out⟩, ⟨by repeat (first | (with_reducible first | exact HB.out | apply below_alloc | apply pw_below_drewN | apply below_drew1) | exact HB.out)⟩⟩
     ·rw [if_neg c8] at H
      have c8b0 : decide (x6_1 < (a0.size : Int)) = false := decide_eq_false c8
      clear c8
      have H' := Aside0.mk H
      clear H
      go_wp2
      go_loopg [8, 9, 10] k1 (fun kq v8 v9 v10 w' => ∃ (x8_2 : ByteArray) (x9_2 : Int) (x10_2 : Int), v8 = .string x8_2 ∧ v9 = .int .i64 x9_2 ∧ v10 = .int .i64 x10_2 ∧ Aside0 (offcutref01_Mul.l2 kq x5_1 x8_2 x9_2 x10_2 = some r) ∧ Aside0 (kq ≤ k1) ∧ Aside0 (Kd.R (Kd.int .i64) 3 w' w.heap.size (fun _ => True) v621 x5_1) ∧ Aside0 (Below w.heap.size w w'))
      case atStart => exact ⟨((⟨#[]⟩ : ByteArray)), (0), (0), (by first | rfl | (simp; done) | (simp [*]; done)), (by first | rfl | (simp; done) | (simp [*]; done)), (by first | rfl | (simp; done) | (simp [*]; done)), H', ⟨Nat.le_refl _⟩, ⟨by (with_reducible repeat (first | apply Kd.R_alloc | apply Kd.R_drewN | apply Kd.R_drew)); exact HO_5.out⟩, ⟨by repeat (first | (with_reducible first | exact HB.out | apply below_alloc | apply pw_below_drewN | apply below_drew1) | exact HB.out)⟩⟩
      case round =>
       clear H'
       try clear c1
       try clear p1
       try clear q1
       try clear hx1
       try clear p2
       try clear c4
       try clear c4b0
       try clear c4b1
       try clear c5
       try clear c5b0
       try clear c5b1
       try clear p6
       try clear q6
       try clear hx6
       try clear c8
       try clear c8b0
       try clear c9
       try clear c9b0
       try clear c11
       try clear c11b0
       try clear c12
       try clear c12b0
       try clear p15
       try clear q15
       try clear hx15
       try clear hf15
       try clear hx15_0
       try clear hx623_0
       try clear p15
       try clear p2
       try clear p6
       try clear p623
       try clear q15
       try clear q623
       obtain ⟨x8_2, x9_2, x10_2, rfl, rfl, rfl, HA, HK2, HO_5, HB⟩ := hrel
       cases gk with
       | zero => exact absurd HA.out (by simp [offcutref01_Mul.l2])
       | succ k2 =>
        have H := HA.out
        clear HA
        simp only [offcutref01_Mul.l2] at H
        by_cases c19 : x10_2 < (x5_1.length : Int)
        ·rw [if_pos c19] at H
         have c19b0 : decide (x10_2 < (x5_1.length : Int)) = true := decide_eq_true c19
         clear c19
         by_cases c20 : 0 ≤ x10_2
         ·rw [if_pos c20] at H
          have c20b0 : decide (0 ≤ x10_2) = true := decide_eq_true c20
          clear c20
          replace H := Option.bind_eq_some_iff.mp H
          obtain ⟨t628, A210, H⟩ := H
          try dsimp only at H
          have A21 := Aside0.mk A210
          clear A210
          by_cases c22 : t628.size + x8_2.size ≤ 9223372036854775807
          ·rw [if_pos c22] at H
           have c22b0 := eq_true c22
           have c22b1 : decide (t628.size + x8_2.size ≤ 9223372036854775807) = true := decide_eq_true c22
           try have c22b2 : (9223372036854775807 < t628.size + x8_2.size) = False := eq_false (Nat.not_lt.2 c22)
           have H' := Aside0.mk H
           clear H
           obtain ⟨Ao23, co23, eo23⟩ := Kd.R_slice HO_5.out
           subst eo23
           have p627 : 0 ≤ (x10_2 : Int) := of_decide_eq_true (by first | (with_reducible assumption) | assumption)
           have q627 : x10_2 < (x5_1.length : Int) := of_decide_eq_true (by first | (with_reducible assumption) | assumption)
           obtain ⟨ad627, e627, hx627_0⟩ := Kd.at_int (Kd.R_reads' HO_5.out).2.2 x10_2 p627 q627
           cases e627
           replace p627 := eq_true p627
           replace q627 := eq_true q627
           go_wp2_with (first | ((with_reducible refine gate_callee (f := 80) rfl ?_); refine Short.goesS_ (some 64) Try.func80 #[.int .i64 (Int.tmod (wrap64 ((rd x5_1 x10_2) + x9_2)) 10)] ?_; (with_reducible refine (offcutref01_sign.calls (Int.tmod (wrap64 ((rd x5_1 x10_2) + x9_2)) 10) t628 _ A21.out).mono ?_); rintro e w' ⟨rfl, ⟨nd, rfl⟩⟩; refine ⟨_, rfl, ?_⟩))
           go_roundg k2
           case measure => have := HK1.out; have := HK2.out; omega
           case rel => exact ⟨(t628 ++ x8_2), (wrap64 (Int.tdiv (wrap64 ((rd x5_1 x10_2) + x9_2)) 10)), (wrap64 (x10_2 + 1)), (by first | rfl | (simp; done) | (simp [*]; done)), (by first | rfl | (simp; done) | (simp [*]; done)), (by first | rfl | (simp; done) | (simp [*]; done)), H', ⟨by have := HK1.out; have := HK2.out; omega⟩, ⟨by (with_reducible repeat (first | apply Kd.R_alloc | apply Kd.R_drewN | apply Kd.R_drew)); exact HO_5.out⟩, ⟨by repeat (first | (with_reducible first | exact HB.out | apply below_alloc | apply pw_below_drewN | apply below_drew1) | exact HB.out)⟩⟩
          ·rw [if_neg c22] at H
           exact absurd H (by simp)
         ·rw [if_neg c20] at H
          exact absurd H (by simp)
        ·rw [if_neg c19] at H
         have c19b0 : decide (x10_2 < (x5_1.length : Int)) = false := decide_eq_false c19
         clear c19
         replace H := Option.bind_eq_some_iff.mp H
         obtain ⟨t629, A240, H⟩ := H
         replace H : (some t629) = some r := H
         have A24 := Aside0.mk A240
         clear A240
         obtain rfl := Option.some.inj H
         obtain ⟨Ao25, co25, eo25⟩ := Kd.R_slice HO_5.out
         subst eo25
         go_wp2_with (first | ((with_reducible refine gate_callee (f := 81) rfl ?_); refine Short.goesS_ (some 70) Try.func81 #[.string x8_2] ?_; (with_reducible refine (offcutref01_cut.calls k2 x8_2 t629 _ A24.out).mono ?_); rintro e w' ⟨rfl, ⟨nd, rfl⟩⟩; refine ⟨_, rfl, ?_⟩))
         go_ret
         exact ⟨by first | rfl | (simp [errW_none, errW_some] <;> rfl) | (simp only [← hji3]; first | rfl | (simp [errW_none, errW_some] <;> rfl)) | (simp [*, errW_none, errW_some] <;> rfl), by repeat (first | (with_reducible first | exact HB.out | apply below_alloc | apply pw_below_drewN | apply below_drew1) | exact HB.out)⟩
  ·rw [if_neg c5] at H
   exact absurd H (by simp)
 ·rw [if_neg c4] at H
  exact absurd H (by simp)

/-- What is carried out of the places. -/
theorem offcutref01_Mul.ev_c {s : List Nat} {V : Nat} (hs : ∀ j, s.getD j 0 ≤ 81000000000) (hl : s.length < 3000000000) (hV : Dec.dv s = V) (hVl : V < 10 ^ s.length) (d : Nat) : ∀ (out : List Nat) (c : Nat), out.length + d = s.length → Dec.Ds out → c ≤ 81000000000 →
  Dec.dv (s.take out.length) = Dec.dv out + 10 ^ out.length * c → Ev (fun k => offcutref01_Mul.l2 k (Dec.ints s) (Dec.tx out) (c : Int) (out.length : Int)) (Dec.dec V) := by
 induction d with
 | zero =>
  intro out c hd ho hc hv
  rw [List.take_of_length_le (by omega), hV, show out.length = s.length from by omega] at hv
  have hc0 : c = 0 := by
   rcases Nat.eq_zero_or_pos c with h | h
   ·exact h
   ·have := Nat.mul_le_mul_left (10 ^ s.length) h
    omega
  have hvv : Dec.dv out = V := by rw [hc0] at hv; omega
  refine Ev.step (f := fun k => (offcutref01_cut.f k (Dec.tx out)).bind fun t => some t) (fun k => ?_) ?_
  ·rw [offcutref01_Mul.l2, if_neg (by rw [Dec.ints_length]; omega)]
  ·rw [← hvv]
   exact Ev.bind (offcutref01_cut.ev ho) (Ev.now _)
 | succ d ih =>
  intro out c hd ho hc hv
  have h1 := hs out.length
  obtain ⟨p, hp⟩ : ∃ p, p = s.getD out.length 0 := ⟨_, rfl⟩
  rw [← hp] at h1
  refine Ev.step (f := fun k => offcutref01_Mul.l2 k (Dec.ints s) (Dec.tx (out ++ [(p + c) % 10])) (((p + c) / 10 : Nat) : Int) ((out.length + 1 : Nat) : Int)) (fun k => ?_) ?_
  ·rw [offcutref01_Mul.l2, if_pos (by rw [Dec.ints_length]; omega), if_pos (by omega), Dec.rd_ints, ← hp, Dec.w64a _ _ (by omega), Dec.tmod10, Dec.tdiv10, offcutref01_sign.sem _ (Nat.mod_lt _ (by omega)), Option.bind_some, Dec.tx_append, Dec.tx_size, Dec.tx_size, if_pos (by rw [List.length_singleton]; omega), Dec.w64n _ (by omega), Dec.w64s _ (by omega)]
  ·have := ih (out ++ [(p + c) % 10]) ((p + c) / 10) (by rw [List.length_append, List.length_singleton]; omega) (ho.snoc (Nat.mod_lt _ (by omega))) (by omega) (by
    rw [List.length_append, List.length_singleton, Dec.dv_take_succ, ← hp, Dec.dv_snoc, Nat.pow_succ]
    have h3 : 10 ^ out.length * (p + c) = 10 ^ out.length * ((p + c) % 10 + 10 * ((p + c) / 10)) := by congr 1; omega
    rw [Nat.mul_add, Nat.mul_add, ← Nat.mul_assoc] at h3
    omega)
   rw [List.length_append, List.length_singleton] at this
   exact this
/-- One row of the product; then what follows (K). -/
theorem offcutref01_Mul.ev_r {a b : List Nat} (ha : Dec.Ds a) (hb : Dec.Ds b) (la : a.length < 1000000000) (lb : b.length < 1000000000) {r : ByteArray} {i : Nat} (hi : i < a.length) (M : Nat)
  (next : ∀ s : List Nat, s.length = a.length + b.length + 1 → (∀ j, s.getD j 0 ≤ 81 * (i + 1)) → Dec.dv s = M + 10 ^ i * (a.getD i 0 * Dec.dv b) → Ev (fun k => offcutref01_Mul.l0 k (Dec.tx a) (Dec.tx b) (Dec.ints s) ((i + 1 : Nat) : Int)) r) (d : Nat) : ∀ (s : List Nat) (q : Nat), q + d = b.length → s.length = a.length + b.length + 1 → (∀ j, s.getD j 0 ≤ 81 * (i + 1)) → (∀ j, i + q ≤ j → s.getD j 0 ≤ 81 * i) →
  Dec.dv s = M + 10 ^ i * (a.getD i 0 * Dec.dv (b.take q)) → Ev (fun k => offcutref01_Mul.l1 k (Dec.tx a) (Dec.tx b) (Dec.ints s) (i : Int) (q : Int)) r := by
 induction d with
 | zero =>
  intro s q hd hl h1 h2 hv
  refine Ev.step (f := fun k => offcutref01_Mul.l0 k (Dec.tx a) (Dec.tx b) (Dec.ints s) ((i + 1 : Nat) : Int)) (fun k => ?_) (next s hl h1 ?_)
  ·rw [offcutref01_Mul.l1, Dec.tx_size, if_neg (by omega), Dec.w64s _ (by omega)]
  ·rw [List.take_of_length_le (by omega)] at hv
   exact hv
 | succ d ih =>
  intro s q hd hl h1 h2 hv
  have g1 := ha.getD i
  have g2 := hb.getD q
  obtain ⟨x, hx⟩ : ∃ x, x = a.getD i 0 := ⟨_, rfl⟩
  obtain ⟨y, hy⟩ : ∃ y, y = b.getD q 0 := ⟨_, rfl⟩
  rw [← hx] at g1
  rw [← hy] at g2
  have hxy : x * y ≤ 81 := Nat.mul_le_mul (show x ≤ 9 from by omega) (show y ≤ 9 from by omega)
  have hp := h2 (i + q) (Nat.le_refl _)
  refine Ev.step (f := fun k => offcutref01_Mul.l1 k (Dec.tx a) (Dec.tx b) (Dec.ints (s.set (i + q) (s.getD (i + q) 0 + x * y))) (i : Int) ((q + 1 : Nat) : Int)) (fun k => ?_) ?_
  ·rw [offcutref01_Mul.l1, Dec.tx_size, if_pos (by omega), Dec.w64a _ _ (by omega), if_pos (by omega), if_pos (by rw [Dec.ints_length]; omega), offcutref01_at.sem ha (by omega), offcutref01_at.sem hb (by omega), Option.bind_some, Option.bind_some, ← hx, ← hy, Dec.rd_ints, Int.toNat_natCast, Dec.w64m _ _ (by omega), Dec.w64a _ _ (by omega), Dec.ints_set, Dec.w64s _ (by omega)]
  ·refine ih _ (q + 1) (by omega) (by rw [List.length_set]; exact hl) (fun j => ?_) (fun j hj => ?_) ?_
   ·rw [Dec.getD_set]
    split
    ·omega
    ·exact h1 j
   ·rw [Dec.getD_set, if_neg (by omega)]
    exact h2 j (by omega)
   ·rw [Dec.dv_set _ _ (by omega), hv, Dec.dv_take_succ, ← hx, ← hy, Nat.mul_add, Nat.mul_add, Nat.pow_add]
    have : 10 ^ i * (x * (10 ^ q * y)) = 10 ^ i * 10 ^ q * (x * y) := by rw [Nat.mul_left_comm x, Nat.mul_assoc]
    omega
theorem offcutref01_Mul.ev_l {a b : List Nat} (ha : Dec.Ds a) (hb : Dec.Ds b) (la : a.length < 1000000000) (lb : b.length < 1000000000) (d : Nat) : ∀ (s : List Nat) (i : Nat), i + d = a.length → s.length = a.length + b.length + 1 → (∀ j, s.getD j 0 ≤ 81 * i) → Dec.dv s = Dec.dv (a.take i) * Dec.dv b →
  Ev (fun k => offcutref01_Mul.l0 k (Dec.tx a) (Dec.tx b) (Dec.ints s) (i : Int)) (Dec.dec (Dec.dv a * Dec.dv b)) := by
 induction d with
 | zero =>
  intro s i hd hl h1 hv
  refine Ev.step (f := fun k => offcutref01_Mul.l2 k (Dec.ints s) (Dec.tx []) ((0 : Nat) : Int) ((([] : List Nat).length : Nat) : Int)) (fun k => ?_) ?_
  ·rw [offcutref01_Mul.l0, Dec.tx_size, if_neg (by omega)]
   rfl
  ·rw [List.take_of_length_le (by omega)] at hv
   refine offcutref01_Mul.ev_c (fun j => Nat.le_trans (h1 j) (by omega)) (by omega) hv ?_ s.length [] 0 (by rw [List.length_nil]; omega) Dec.Ds.nil (by omega) (by rw [List.length_nil, List.take_zero]; rfl)
   rw [hl, Nat.pow_succ, Nat.pow_add]
   have h2 := Nat.mul_le_mul (Nat.le_of_lt (Dec.dv_lt ha)) (Nat.le_of_lt (Dec.dv_lt hb))
   have h3 : 0 < 10 ^ a.length * 10 ^ b.length := Nat.mul_pos (Nat.pow_pos (by omega)) (Nat.pow_pos (by omega))
   omega
 | succ d ih =>
  intro s i hd hl h1 hv
  refine Ev.step (f := fun k => offcutref01_Mul.l1 k (Dec.tx a) (Dec.tx b) (Dec.ints s) (i : Int) ((0 : Nat) : Int)) (fun k => ?_) ?_
  ·rw [offcutref01_Mul.l0, Dec.tx_size, if_pos (by omega)]
   rfl
  ·refine offcutref01_Mul.ev_r ha hb la lb (by omega) (Dec.dv s) (fun s' hl' h1' hv' => ?_) b.length s 0 (by omega) hl (fun j => Nat.le_trans (h1 j) (by omega)) (fun j _ => h1 j) (by rw [List.take_zero, Dec.dv]; omega)
   refine ih s' (i + 1) (by omega) hl' h1' ?_
   rw [hv', hv, Dec.dv_take_succ, Nat.add_mul, Nat.mul_assoc]
theorem offcutref01_Mul.ev {a b : List Nat} (ha : Dec.Ds a) (hb : Dec.Ds b) (la : a.length < 1000000000) (lb : b.length < 1000000000) : Ev (fun k => offcutref01_Mul.f k (Dec.tx a) (Dec.tx b)) (Dec.dec (Dec.dv a * Dec.dv b)) := by
 have := offcutref01_Mul.ev_l ha hb la lb a.length (List.replicate (a.length + b.length + 1) 0) 0 (by omega) (List.length_replicate) (fun j => by rw [List.getD_eq_getElem?_getD, List.getElem?_replicate]; split <;> simp) (by rw [Dec.dv_zeros, List.take_zero, Dec.dv, Nat.zero_mul])
 refine Ev.congr (fun k => ?_) this
 unfold offcutref01_Mul.f
 rw [Dec.tx_size, Dec.tx_size, Dec.w64a _ _ (by omega), Dec.w64s _ (by omega), if_pos (by omega), Int.toNat_natCast, if_pos (by omega), Dec.ints_zeros]
 rfl
/-! ### offcutref01_Add: function 56 -/
mutual
def offcutref01_Add.l0 : Nat → ByteArray → ByteArray → ByteArray → Int → Int → Option (ByteArray)
 | 0, _, _, _, _, _ => none
 | k + 1, x0, x1, x5, x6, x7 => if x7 ≤ (x0.size : Int) then (offcutref01_Add.j1 k x0 x1 x5 x6 x7 true) else (offcutref01_Add.j1 k x0 x1 x5 x6 x7 (decide (x7 ≤ (x1.size : Int))))
def offcutref01_Add.j1 : Nat → ByteArray → ByteArray → ByteArray → Int → Int → Bool → Option (ByteArray)
 | 0, _, _, _, _, _, _ => none
 | k + 1, x0, x1, x5, x6, x7, x18 => if x18 = true then ((offcutref01_at.f x0 x7).bind fun t630 => ((offcutref01_at.f x1 x7).bind fun t631 => ((offcutref01_sign.f (Int.tmod (wrap64 ((wrap64 (t630 + t631)) + x6)) 10)).bind fun t632 => (if t632.size + x5.size ≤ 9223372036854775807 then (offcutref01_Add.l0 k x0 x1 (t632 ++ x5) (wrap64 (Int.tdiv (wrap64 ((wrap64 (t630 + t631)) + x6)) 10)) (wrap64 (x7 + 1))) else (none))))) else ((offcutref01_cut.f k x5).bind fun t633 => (some t633))
end
def offcutref01_Add.f (k : Nat) (a0 : ByteArray) (a1 : ByteArray) : Option (ByteArray) := offcutref01_Add.l0 k a0 a1 (⟨#[]⟩ : ByteArray) 0 0
set_option maxHeartbeats 8000000 in
set_option maxRecDepth 100000 in
theorem offcutref01_Add.calls (k : Nat) (a0 : ByteArray) (a1 : ByteArray) (r : ByteArray) (w : World) (h : offcutref01_Add.f k a0 a1 = some r) :
  Calls Try.prog 56 #[.string a0, .string a1] w fun e w' => e = .returned (.string r) ∧ Drawn0 w w' := by
 have H : (offcutref01_Add.l0 k a0 a1 (⟨#[]⟩ : ByteArray) 0 0) = some r := h
 clear h
 have H' := Aside0.mk H
 clear H
 go_enter Try.func56, Try.ntmps56
 go_wp2
 go_loopg [5, 6, 7] k (fun kq v5 v6 v7 w' => ∃ (x5_1 : ByteArray) (x6_1 : Int) (x7_1 : Int), v5 = .string x5_1 ∧ v6 = .int .i64 x6_1 ∧ v7 = .int .i64 x7_1 ∧ Aside0 (offcutref01_Add.l0 kq a0 a1 x5_1 x6_1 x7_1 = some r) ∧ Aside0 (kq ≤ k) ∧ Drawn0 w w')
 case atStart => exact ⟨((⟨#[]⟩ : ByteArray)), (0), (0), (by first | rfl | (simp; done) | (simp [*]; done)), (by first | rfl | (simp; done) | (simp [*]; done)), (by first | rfl | (simp; done) | (simp [*]; done)), H', ⟨Nat.le_refl _⟩, by repeat (first | exact Drawn0.refl _ | apply Drawn0.step)⟩
 case round =>
  clear H'
  try clear p2
  obtain ⟨x5_1, x6_1, x7_1, rfl, rfl, rfl, HA, HK1, ⟨m1, rfl⟩⟩ := hrel
  cases gk with
  | zero => exact absurd HA.out (by simp [offcutref01_Add.l0])
  | succ k1 =>
   have H := HA.out
   clear HA
   simp only [offcutref01_Add.l0] at H
   have HC3 := Aside0.mk H
   clear H
   go_upto_region 4 with (fail)
   go_cut [18] (fun v18 wc => ∃ (kq : Nat) (x18_2 : Bool), v18 = .bool x18_2 ∧ Aside0 (offcutref01_Add.j1 kq a0 a1 x5_1 x6_1 x7_1 x18_2 = some r) ∧ Aside0 (kq ≤ k1) ∧ Drawn0 w wc)
   case first =>
    have H := HC3.out
    clear HC3
    by_cases c4 : x7_1 ≤ (a0.size : Int)
    ·rw [if_pos c4] at H
     have c4b0 : decide (x7_1 ≤ (a0.size : Int)) = true := decide_eq_true c4
     clear c4
     (first | rw [c4b0] | (simp only [i64_w, i32_w]; rw [c4b0]) | skip)
     have H' := Aside0.mk H
     clear H
     go_wp2
     go_meet
     case rel => exact ⟨_, (true), (by first | rfl | (simp; done) | (simp [*]; done)), H', ⟨by have := HK1.out; first | omega | exact Nat.le_refl _⟩, by repeat (first | exact Drawn0.refl _ | apply Drawn0.step)⟩
    ·rw [if_neg c4] at H
     have c4b0 : decide (x7_1 ≤ (a0.size : Int)) = false := decide_eq_false c4
     clear c4
     (first | rw [c4b0] | (simp only [i64_w, i32_w]; rw [c4b0]) | skip)
     have H' := Aside0.mk H
     clear H
     go_wp2
     go_meet
     case rel => exact ⟨_, (decide (x7_1 ≤ (a1.size : Int))), (by first | rfl | (simp; done) | (simp [*]; done)), H', ⟨by have := HK1.out; first | omega | exact Nat.le_refl _⟩, by repeat (first | exact Drawn0.refl _ | apply Drawn0.step)⟩
   case rest =>
    clear HC3
    try clear p2
    try clear c4
    try clear c4b0
    try clear p2
    obtain ⟨kq, x18_2, rfl, HA, HJ2, ⟨mc2, rfl⟩⟩ := hcut
    cases kq with
    | zero => exact absurd HA.out (by simp [offcutref01_Add.j1])
    | succ kj2 =>
     have H := HA.out
     clear HA
     simp only [offcutref01_Add.j1] at H
     by_cases c5 : x18_2 = true
     ·subst c5
      have H1 : ((offcutref01_at.f a0 x7_1).bind fun t630 => ((offcutref01_at.f a1 x7_1).bind fun t631 => ((offcutref01_sign.f (Int.tmod (wrap64 ((wrap64 (t630 + t631)) + x6_1)) 10)).bind fun t632 => (if t632.size + x5_1.size ≤ 9223372036854775807 then (offcutref01_Add.l0 kj2 a0 a1 (t632 ++ x5_1) (wrap64 (Int.tdiv (wrap64 ((wrap64 (t630 + t631)) + x6_1)) 10)) (wrap64 (x7_1 + 1))) else (none))))) = some r := by rw [if_pos rfl] at H; exact H
      clear H
      have H := H1
      clear H1
      replace H := Option.bind_eq_some_iff.mp H
      obtain ⟨t630, A60, H⟩ := H
      try dsimp only at H
      have A6 := Aside0.mk A60
      clear A60
      replace H := Option.bind_eq_some_iff.mp H
      obtain ⟨t631, A70, H⟩ := H
      try dsimp only at H
      have A7 := Aside0.mk A70
      clear A70
      replace H := Option.bind_eq_some_iff.mp H
      obtain ⟨t632, A80, H⟩ := H
      try dsimp only at H
      have A8 := Aside0.mk A80
      clear A80
      by_cases c9 : t632.size + x5_1.size ≤ 9223372036854775807
      ·rw [if_pos c9] at H
       have c9b0 := eq_true c9
       have c9b1 : decide (t632.size + x5_1.size ≤ 9223372036854775807) = true := decide_eq_true c9
       try have c9b2 : (9223372036854775807 < t632.size + x5_1.size) = False := eq_false (Nat.not_lt.2 c9)
       have H' := Aside0.mk H
       clear H
       go_wp2_with (first | ((with_reducible refine gate_callee (f := 82) rfl ?_); refine Short.goesS_ (some 23) Try.func82 #[.string a0, .int .i64 x7_1] ?_; (with_reducible refine (offcutref01_at.calls a0 x7_1 t630 _ A6.out).mono ?_); rintro e w' ⟨rfl, ⟨nd, rfl⟩⟩; refine ⟨_, rfl, ?_⟩) | ((with_reducible refine gate_callee (f := 82) rfl ?_); refine Short.goesS_ (some 26) Try.func82 #[.string a1, .int .i64 x7_1] ?_; (with_reducible refine (offcutref01_at.calls a1 x7_1 t631 _ A7.out).mono ?_); rintro e w' ⟨rfl, ⟨nd, rfl⟩⟩; refine ⟨_, rfl, ?_⟩) | ((with_reducible refine gate_callee (f := 80) rfl ?_); refine Short.goesS_ (some 32) Try.func80 #[.int .i64 (Int.tmod (wrap64 ((wrap64 (t630 + t631)) + x6_1)) 10)] ?_; (with_reducible refine (offcutref01_sign.calls (Int.tmod (wrap64 ((wrap64 (t630 + t631)) + x6_1)) 10) t632 _ A8.out).mono ?_); rintro e w' ⟨rfl, ⟨nd, rfl⟩⟩; refine ⟨_, rfl, ?_⟩))
       go_roundg kj2
       case measure => have := HK1.out; have := HJ2.out; omega
       case rel => exact ⟨(t632 ++ x5_1), (wrap64 (Int.tdiv (wrap64 ((wrap64 (t630 + t631)) + x6_1)) 10)), (wrap64 (x7_1 + 1)), (by first | rfl | (simp; done) | (simp [*]; done)), (by first | rfl | (simp; done) | (simp [*]; done)), (by first | rfl | (simp; done) | (simp [*]; done)), H', ⟨by have := HK1.out; have := HJ2.out; omega⟩, by repeat (first | exact Drawn0.refl _ | apply Drawn0.step)⟩
      ·rw [if_neg c9] at H
       exact absurd H (by simp)
     ·replace c5 := Bool.eq_false_iff.mpr c5
      subst c5
      have H1 : ((offcutref01_cut.f kj2 x5_1).bind fun t633 => (some t633)) = some r := by rw [if_neg (show ¬ (false = true) by decide)] at H; exact H
      clear H
      have H := H1
      clear H1
      replace H := Option.bind_eq_some_iff.mp H
      obtain ⟨t633, A100, H⟩ := H
      replace H : (some t633) = some r := H
      have A10 := Aside0.mk A100
      clear A100
      obtain rfl := Option.some.inj H
      go_wp2_with (first | ((with_reducible refine gate_callee (f := 81) rfl ?_); refine Short.goesS_ (some 38) Try.func81 #[.string x5_1] ?_; (with_reducible refine (offcutref01_cut.calls kj2 x5_1 t633 _ A10.out).mono ?_); rintro e w' ⟨rfl, ⟨nd, rfl⟩⟩; refine ⟨_, rfl, ?_⟩))
      go_ret
      exact ⟨by first | rfl | (simp; done) | (simp [*]; done), by repeat (first | exact Drawn0.refl _ | apply Drawn0.step)⟩

theorem offcutref01_Add.l0_eq (k : Nat) {a b : List Nat} (x5 : ByteArray) (x6 : Int) (j : Nat) : offcutref01_Add.l0 (k + 1) (Dec.tx a) (Dec.tx b) x5 x6 (j : Int) = offcutref01_Add.j1 k (Dec.tx a) (Dec.tx b) x5 x6 (j : Int) (decide (j ≤ a.length ∨ j ≤ b.length)) := by
 rw [offcutref01_Add.l0, Dec.tx_size, Dec.tx_size]
 by_cases h : j ≤ a.length
 ·rw [if_pos (by omega), decide_eq_true (.inl h)]
 ·rw [if_neg (by omega)]
  rw [show decide ((j : Int) ≤ (b.length : Int)) = decide (j ≤ a.length ∨ j ≤ b.length) from decide_eq_decide.2 (by omega)]
theorem offcutref01_Add.ev_l {a b : List Nat} (ha : Dec.Ds a) (hb : Dec.Ds b) (la : a.length < 1000000000) (lb : b.length < 1000000000) (d : Nat) : ∀ (out : List Nat) (c : Nat), out.length + d = max a.length b.length + 1 → Dec.Ds out → c ≤ 1 →
  Dec.dv (a.take out.length) + Dec.dv (b.take out.length) = Dec.dv out + 10 ^ out.length * c → Ev (fun k => offcutref01_Add.l0 k (Dec.tx a) (Dec.tx b) (Dec.tx out) (c : Int) (out.length : Int)) (Dec.dec (Dec.dv a + Dec.dv b)) := by
 induction d with
 | zero =>
  intro out c hd ho hc hv
  have h1 := Dec.dv_lt ha
  have h2 := Dec.dv_lt hb
  obtain ⟨m, hm⟩ : ∃ m, out.length = m + 1 := ⟨max a.length b.length, by omega⟩
  have h3 : 10 ^ a.length ≤ 10 ^ m := Nat.pow_le_pow_right (by omega) (by omega)
  have h4 : 10 ^ b.length ≤ 10 ^ m := Nat.pow_le_pow_right (by omega) (by omega)
  rw [List.take_of_length_le (by omega), List.take_of_length_le (by omega), hm, Nat.pow_succ] at hv
  have hc0 : c = 0 := by
   rcases Nat.eq_zero_or_pos c with h | h
   ·exact h
   ·obtain rfl : c = 1 := by omega
    omega
  subst hc0
  have hvv : Dec.dv out = Dec.dv a + Dec.dv b := by omega
  refine Ev.step (f := fun k => offcutref01_Add.j1 k (Dec.tx a) (Dec.tx b) (Dec.tx out) ((0 : Nat) : Int) (out.length : Int) false) (fun k => ?_) ?_
  ·rw [offcutref01_Add.l0_eq, decide_eq_false (by omega)]
  ·refine Ev.step (f := fun k => (offcutref01_cut.f k (Dec.tx out)).bind fun t => some t) (fun k => ?_) ?_
   ·rw [offcutref01_Add.j1, if_neg (by simp)]
   ·rw [← hvv]
    exact Ev.bind (offcutref01_cut.ev ho) (Ev.now _)
 | succ d ih =>
  intro out c hd ho hc hv
  have h1 := ha.getD out.length
  have h2 := hb.getD out.length
  obtain ⟨p, hp⟩ : ∃ p, p = a.getD out.length 0 := ⟨_, rfl⟩
  obtain ⟨q, hq⟩ : ∃ q, q = b.getD out.length 0 := ⟨_, rfl⟩
  refine Ev.step (f := fun k => offcutref01_Add.j1 k (Dec.tx a) (Dec.tx b) (Dec.tx out) (c : Int) (out.length : Int) true) (fun k => ?_) ?_
  ·rw [offcutref01_Add.l0_eq, decide_eq_true (by omega)]
  ·refine Ev.step (f := fun k => offcutref01_Add.l0 k (Dec.tx a) (Dec.tx b) (Dec.tx (out ++ [(p + q + c) % 10])) (((p + q + c) / 10 : Nat) : Int) ((out.length + 1 : Nat) : Int)) (fun k => ?_) ?_
   ·rw [offcutref01_Add.j1, if_pos rfl, offcutref01_at.sem ha (by omega), offcutref01_at.sem hb (by omega), ← hp, ← hq]
    rw [Option.bind_some, Option.bind_some, Dec.w64a _ _ (by omega), Dec.w64a _ _ (by omega), Dec.tmod10, Dec.tdiv10, offcutref01_sign.sem _ (Nat.mod_lt _ (by omega)), Option.bind_some, Dec.tx_append, Dec.tx_size, Dec.tx_size, if_pos (by rw [List.length_singleton]; omega), Dec.w64n _ (by omega), Dec.w64s _ (by omega)]
   ·have := ih (out ++ [(p + q + c) % 10]) ((p + q + c) / 10) (by rw [List.length_append, List.length_singleton]; omega) (ho.snoc (Nat.mod_lt _ (by omega))) (by omega) (by
     rw [List.length_append, List.length_singleton, Dec.dv_take_succ, Dec.dv_take_succ, ← hp, ← hq, Dec.dv_snoc, Nat.pow_succ]
     have h3 : 10 ^ out.length * (p + q + c) = 10 ^ out.length * ((p + q + c) % 10 + 10 * ((p + q + c) / 10)) := by congr 1; omega
     rw [Nat.mul_add, Nat.mul_add, Nat.mul_add, ← Nat.mul_assoc] at h3
     omega)
    rw [List.length_append, List.length_singleton] at this
    exact this
theorem offcutref01_Add.ev {a b : List Nat} (ha : Dec.Ds a) (hb : Dec.Ds b) (la : a.length < 1000000000) (lb : b.length < 1000000000) : Ev (fun k => offcutref01_Add.f k (Dec.tx a) (Dec.tx b)) (Dec.dec (Dec.dv a + Dec.dv b)) :=
 offcutref01_Add.ev_l ha hb la lb (max a.length b.length + 1) [] 0 (by rw [List.length_nil]; omega) Dec.Ds.nil (by omega) (by rw [List.length_nil, List.take_zero, List.take_zero]; rfl)
/-! ### offcutref01_Of: function 47 -/
mutual
def offcutref01_Of.l0 : Nat → List Int → ByteArray → Int → Option (ByteArray)
 | 0, _, _, _ => none
 | k + 1, x0, x3, x4 => if x4 ≥ 0 then ((offcutref01_Mul.f k x3 (⟨#[52, 50, 57, 52, 57, 54, 55, 50, 57, 54]⟩ : ByteArray)).bind fun t634 => (if 0 ≤ x4 then (if x4 < (x0.length : Int) then (offcutref01_Of.l1 k x0 t634 x4 (rd x0 x4) (⟨#[]⟩ : ByteArray)) else (none)) else (none))) else (some x3)
def offcutref01_Of.l1 : Nat → List Int → ByteArray → Int → Int → ByteArray → Option (ByteArray)
 | 0, _, _, _, _, _ => none
 | k + 1, x0, x3, x4, x5, x6 => if x5 > 0 then ((offcutref01_sign.f (wrap64 (Int.tmod x5 10))).bind fun t636 => (if t636.size + x6.size ≤ 9223372036854775807 then (offcutref01_Of.l1 k x0 x3 x4 ((Int.tdiv x5 10) % 4294967296) (t636 ++ x6)) else (none))) else ((offcutref01_cut.f k x6).bind fun t637 => ((offcutref01_Add.f k x3 t637).bind fun t638 => (offcutref01_Of.l0 k x0 t638 (wrap64 (x4 - 1)))))
end
def offcutref01_Of.f (k : Nat) (l0 : List Int) : Option (ByteArray) := offcutref01_Of.l0 k l0 (⟨#[48]⟩ : ByteArray) (wrap64 ((l0.length : Int) - 1))
set_option maxHeartbeats 8000000 in
set_option maxRecDepth 100000 in
theorem offcutref01_Of.calls (k : Nat) (A0 : Option Addr) (c0 : Nat) (l0 : List Int) (r : ByteArray) (w : World) (hr0 : Kd.C (Kd.int .u32) w A0 l0.length l0) (hc0 : l0.length ≤ c0) (h : offcutref01_Of.f k l0 = some r) :
  Calls Try.prog 47 #[.slice A0 l0.length c0] w fun e w' => e = .returned (.string r) ∧ Below w.heap.size w w' := by
 have HR0 := Aside0.mk hr0
 have HC0 := Aside0.mk hc0
 clear hr0 hc0
 have HB := Aside0.mk (Below.refl w.heap.size w)
 have H : (offcutref01_Of.l0 k l0 (⟨#[48]⟩ : ByteArray) (wrap64 ((l0.length : Int) - 1))) = some r := h
 clear h
 have H' := Aside0.mk H
 clear H
 go_enter Try.func47, Try.ntmps47
 go_wp2
 go_loopg [3, 4] k (fun kq v3 v4 w' => ∃ (x3_1 : ByteArray) (x4_1 : Int), v3 = .string x3_1 ∧ v4 = .int .i64 x4_1 ∧ Aside0 (offcutref01_Of.l0 kq l0 x3_1 x4_1 = some r) ∧ Aside0 (kq ≤ k) ∧ Aside0 (Below w.heap.size w w'))
 case atStart => exact ⟨((⟨#[48]⟩ : ByteArray)), (wrap64 ((l0.length : Int) - 1)), (by first | rfl | (simp; done) | (simp [*]; done)), (by first | rfl | (simp; done) | (simp [*]; done)), H', ⟨Nat.le_refl _⟩, ⟨by repeat (first | (with_reducible first | exact HB.out | apply below_alloc | apply pw_below_drewN | apply below_drew1) | exact HB.out)⟩⟩
 case round =>
  clear H'
  obtain ⟨x3_1, x4_1, rfl, rfl, HA, HK1, HB⟩ := hrel
  cases gk with
  | zero => exact absurd HA.out (by simp [offcutref01_Of.l0])
  | succ k1 =>
   have H := HA.out
   clear HA
   simp only [offcutref01_Of.l0] at H
   by_cases c2 : x4_1 ≥ 0
   ·rw [if_pos c2] at H
    have c2b0 : decide (0 ≤ x4_1) = true := decide_eq_true c2
    clear c2
    replace H := Option.bind_eq_some_iff.mp H
    obtain ⟨t634, A30, H⟩ := H
    try dsimp only at H
    have A3 := Aside0.mk A30
    clear A30
    by_cases c4 : 0 ≤ x4_1
    ·rw [if_pos c4] at H
     have c4b0 : decide (0 ≤ x4_1) = true := decide_eq_true c4
     clear c4
     by_cases c5 : x4_1 < (l0.length : Int)
     ·rw [if_pos c5] at H
      have c5b0 : decide (x4_1 < (l0.length : Int)) = true := decide_eq_true c5
      clear c5
      have H' := Aside0.mk H
      clear H
      go_wp2_with (first | ((with_reducible refine gate_callee (f := 51) rfl ?_); refine Short.goesS_ (some 15) Try.func51 #[.string x3_1, .string (⟨#[52, 50, 57, 52, 57, 54, 55, 50, 57, 54]⟩ : ByteArray)] ?_; (with_reducible refine (offcutref01_Mul.calls k1 x3_1 (⟨#[52, 50, 57, 52, 57, 54, 55, 50, 57, 54]⟩ : ByteArray) t634 _ A3.out).mono ?_); rintro e w6 ⟨rfl, hb⟩; refine ⟨_, rfl, ?_⟩; replace HB := Aside0.mk (below_step (by repeat (first | (with_reducible first | exact HB.out | apply below_alloc | apply pw_below_drewN | apply below_drew1) | exact HB.out)) hb); (try clear hb); have p635 : 0 ≤ (x4_1 : Int) := of_decide_eq_true (by first | (with_reducible assumption) | assumption); have q635 : x4_1 < (l0.length : Int) := of_decide_eq_true (by first | (with_reducible assumption) | assumption); obtain ⟨ad635, e635, hx635_0⟩ := Kd.at_int HR0.out x4_1 p635 q635; cases e635; replace hx635_0 := (HB.out.cell (World.block_lt_of_cell? w _ hx635_0)).trans hx635_0; replace p635 := eq_true p635; replace q635 := eq_true q635))
      go_loopg [5, 6] k1 (fun kq v5 v6 w' => ∃ (x5_2 : Int) (x6_2 : ByteArray), v5 = .int .u32 x5_2 ∧ v6 = .string x6_2 ∧ Aside0 (offcutref01_Of.l1 kq l0 t634 x4_1 x5_2 x6_2 = some r) ∧ Aside0 (kq ≤ k1) ∧ Aside0 (Below w.heap.size w w'))
      case atStart => exact ⟨(rd l0 x4_1), ((⟨#[]⟩ : ByteArray)), (by first | rfl | (simp; done) | (simp [*]; done)), (by first | rfl | (simp; done) | (simp [*]; done)), H', ⟨Nat.le_refl _⟩, ⟨by repeat (first | (with_reducible first | exact HB.out | apply below_alloc | apply pw_below_drewN | apply below_drew1) | exact HB.out)⟩⟩
      case round =>
       clear H'
       try clear c2
       try clear c2b0
       try clear p2
       try clear c4
       try clear c4b0
       try clear c5
       try clear c5b0
       try clear p6
       try clear q6
       try clear hx6
       try clear hx635_0
       try clear p635
       try clear q635
       obtain ⟨x5_2, x6_2, rfl, rfl, HA, HK2, HB⟩ := hrel
       cases gk with
       | zero => exact absurd HA.out (by simp [offcutref01_Of.l1])
       | succ k2 =>
        have H := HA.out
        clear HA
        simp only [offcutref01_Of.l1] at H
        by_cases c7 : x5_2 > 0
        ·rw [if_pos c7] at H
         have c7b0 : decide (0 < x5_2) = true := decide_eq_true c7
         clear c7
         replace H := Option.bind_eq_some_iff.mp H
         obtain ⟨t636, A80, H⟩ := H
         try dsimp only at H
         have A8 := Aside0.mk A80
         clear A80
         by_cases c9 : t636.size + x6_2.size ≤ 9223372036854775807
         ·rw [if_pos c9] at H
          have c9b0 := eq_true c9
          have c9b1 : decide (t636.size + x6_2.size ≤ 9223372036854775807) = true := decide_eq_true c9
          try have c9b2 : (9223372036854775807 < t636.size + x6_2.size) = False := eq_false (Nat.not_lt.2 c9)
          have H' := Aside0.mk H
          clear H
          go_wp2_with (first | ((with_reducible refine gate_callee (f := 80) rfl ?_); refine Short.goesS_ (some 25) Try.func80 #[.int .i64 (wrap64 (Int.tmod x5_2 10))] ?_; (with_reducible refine (offcutref01_sign.calls (wrap64 (Int.tmod x5_2 10)) t636 _ A8.out).mono ?_); rintro e w' ⟨rfl, ⟨nd, rfl⟩⟩; refine ⟨_, rfl, ?_⟩))
          go_roundg k2
          case measure => have := HK1.out; have := HK2.out; omega
          case rel => exact ⟨((Int.tdiv x5_2 10) % 4294967296), (t636 ++ x6_2), (by first | rfl | (simp; done) | (simp [*]; done)), (by first | rfl | (simp; done) | (simp [*]; done)), H', ⟨by have := HK1.out; have := HK2.out; omega⟩, ⟨by repeat (first | (with_reducible first | exact HB.out | apply below_alloc | apply pw_below_drewN | apply below_drew1) | exact HB.out)⟩⟩
         ·rw [if_neg c9] at H
          exact absurd H (by simp)
        ·rw [if_neg c7] at H
         have c7b0 : decide (0 < x5_2) = false := decide_eq_false c7
         clear c7
         replace H := Option.bind_eq_some_iff.mp H
         obtain ⟨t637, A100, H⟩ := H
         try dsimp only at H
         have A10 := Aside0.mk A100
         clear A100
         replace H := Option.bind_eq_some_iff.mp H
         obtain ⟨t638, A110, H⟩ := H
         try dsimp only at H
         have A11 := Aside0.mk A110
         clear A110
         have H' := Aside0.mk H
         clear H
         go_wp2_with (first | ((with_reducible refine gate_callee (f := 81) rfl ?_); refine Short.goesS_ (some 32) Try.func81 #[.string x6_2] ?_; (with_reducible refine (offcutref01_cut.calls k2 x6_2 t637 _ A10.out).mono ?_); rintro e w' ⟨rfl, ⟨nd, rfl⟩⟩; refine ⟨_, rfl, ?_⟩) | ((with_reducible refine gate_callee (f := 56) rfl ?_); refine Short.goesS_ (some 33) Try.func56 #[.string t634, .string t637] ?_; (with_reducible refine (offcutref01_Add.calls k2 t634 t637 t638 _ A11.out).mono ?_); rintro e w' ⟨rfl, ⟨nd, rfl⟩⟩; refine ⟨_, rfl, ?_⟩))
         go_roundg k2
         case measure => have := HK1.out; have := HK2.out; omega
         case rel => exact ⟨(t638), (wrap64 (x4_1 - 1)), (by first | rfl | (simp; done) | (simp [*]; done)), (by first | rfl | (simp; done) | (simp [*]; done)), H', ⟨by have := HK1.out; have := HK2.out; omega⟩, ⟨by repeat (first | (with_reducible first | exact HB.out | apply below_alloc | apply pw_below_drewN | apply below_drew1) | exact HB.out)⟩⟩
     ·rw [if_neg c5] at H
      exact absurd H (by simp)
    ·rw [if_neg c4] at H
     exact absurd H (by simp)
   ·rw [if_neg c2] at H
    have c2b0 : decide (0 ≤ x4_1) = false := decide_eq_false c2
    clear c2
    obtain rfl := Option.some.inj H
    go_wp2
    go_ret
    exact ⟨by rfl, by repeat (first | (with_reducible first | exact HB.out | apply below_alloc | apply pw_below_drewN | apply below_drew1) | exact HB.out)⟩

/-- One word's digits; then what follows. -/
theorem offcutref01_Of.ev_w {l : List Int} {r : ByteArray} {M u : Nat} {i : Int} (hM : (Dec.dc M).length < 1000000000) (hu : u < 10000000000)
  (next : Ev (fun k => offcutref01_Of.l0 k l (Dec.dec (M + u)) (wrap64 (i - 1))) r) (d : Nat) : ∀ (n : Nat) (out : List Nat), n < 10 ^ d → out.length + d ≤ 10 → Dec.Ds out → Dec.dv out + 10 ^ out.length * n = u →
  Ev (fun k => offcutref01_Of.l1 k l (Dec.dec M) i (n : Int) (Dec.tx out)) r := by
 have stop : ∀ out : List Nat, Dec.Ds out → Dec.dv out = u → Ev (fun k => offcutref01_Of.l1 k l (Dec.dec M) i ((0 : Nat) : Int) (Dec.tx out)) r := by
  intro out ho hv
  refine Ev.step (f := fun k => (offcutref01_cut.f k (Dec.tx out)).bind fun t235 => ((offcutref01_Add.f k (Dec.dec M) t235).bind fun t236 => (offcutref01_Of.l0 k l t236 (wrap64 (i - 1))))) (fun k => ?_) ?_
  ·rw [offcutref01_Of.l1, if_neg (by omega)]
  ·refine Ev.bind (offcutref01_cut.ev ho) ?_
   rw [hv]
   have := offcutref01_Add.ev (Dec.Ds_dc M) (Dec.Ds_dc u) hM (Nat.lt_of_le_of_lt (Dec.dc_length_le (k := 10) (by omega) (by omega)) (by omega))
   rw [Dec.dv_dc, Dec.dv_dc] at this
   exact Ev.bind this next
 induction d with
 | zero =>
  intro n out hn hl ho hv
  obtain rfl : n = 0 := by rw [Nat.pow_zero] at hn; omega
  exact stop out ho (by omega)
 | succ d ih =>
  intro n out hn hl ho hv
  rcases Nat.eq_zero_or_pos n with h0 | h0
  ·subst h0
   exact stop out ho (by omega)
  ·have hnu : n < 10 ^ 10 := Nat.lt_of_lt_of_le hn (Nat.pow_le_pow_right (by omega) (by omega))
   have hnv : n < 10000000000 := hnu
   refine Ev.step (f := fun k => offcutref01_Of.l1 k l (Dec.dec M) i ((n / 10 : Nat) : Int) (Dec.tx (out ++ [n % 10]))) (fun k => ?_) ?_
   ·rw [offcutref01_Of.l1, if_pos (by omega), Dec.tmod10, Dec.tdiv10, Dec.w64n _ (by omega), offcutref01_sign.sem _ (Nat.mod_lt _ (by omega)), Option.bind_some, Dec.tx_append, Dec.tx_size, Dec.tx_size, if_pos (by rw [List.length_singleton]; omega), show ((n / 10 : Nat) : Int) % 4294967296 = ((n / 10 : Nat) : Int) from by omega]
   ·refine ih (n / 10) (out ++ [n % 10]) (by rw [Nat.pow_succ] at hn; omega) (by rw [List.length_append, List.length_singleton]; omega) (ho.snoc (Nat.mod_lt _ (by omega))) ?_
    rw [Dec.dv_snoc, List.length_append, List.length_singleton, Nat.pow_succ, ← hv]
    have h3 : 10 ^ out.length * n = 10 ^ out.length * (n % 10 + 10 * (n / 10)) := by congr 1; omega
    rw [Nat.mul_add, ← Nat.mul_assoc] at h3
    omega
theorem offcutref01_Of.ev_l {l : List Int} (hW : Num.Ws l) (hl : l.length < 10000000) : ∀ i, i ≤ l.length → Ev (fun k => offcutref01_Of.l0 k l (Dec.dec (Num.nv (l.drop i))) ((i : Int) - 1)) (Dec.dec (Num.nv l)) := by
 intro i
 induction i with
 | zero =>
  intro hi
  refine Ev.step (f := fun _ => some (Dec.dec (Num.nv (l.drop 0)))) (fun k => ?_) ?_
  ·rw [offcutref01_Of.l0, if_neg (by omega)]
  ·rw [List.drop_zero]
   exact Ev.now _
 | succ i ih =>
  intro hi
  have hb := Num.nv_lt (hW.drop (i + 1))
  rw [List.length_drop] at hb
  have hb2 : Num.nv (l.drop (i + 1)) < 2 ^ (32 * l.length) := Nat.lt_of_lt_of_le hb (Nat.pow_le_pow_right (by omega) (by omega))
  have hl1 := Dec.dc_len32 (by omega) hb2
  have hb3 : Num.nv (l.drop (i + 1)) * 4294967296 < 2 ^ (32 * (l.length + 1)) := by
   rw [Num.pow_succ32]
   exact Nat.mul_lt_mul_of_pos_right hb2 (by omega)
  have hl2 := Dec.dc_len32 (by omega) hb3
  have hw := hW.getD i
  obtain ⟨u, hu⟩ : ∃ u : Nat, (u : Int) = l.getD i 0 := ⟨(l.getD i 0).toNat, by omega⟩
  have hd : Num.nv (l.drop i) = Num.nv (l.drop (i + 1)) * 4294967296 + u := by
   rw [List.drop_eq_getElem_cons (by omega), Num.nv]
   have : l[i] = (u : Int) := by rw [hu, List.getD_eq_getElem?_getD, List.getElem?_eq_getElem (by omega)]; rfl
   rw [this, Int.toNat_natCast]
   omega
  have hm := offcutref01_Mul.ev (Dec.Ds_dc (Num.nv (l.drop (i + 1)))) Dec.Ds_2_32 (by omega) (by decide)
  rw [Dec.dv_dc, show Dec.dv [6, 9, 2, 7, 6, 9, 4, 9, 2, 4] = 4294967296 from rfl] at hm
  refine Ev.step (f := fun k => (offcutref01_Mul.f k (Dec.tx (Dec.dc (Num.nv (l.drop (i + 1))))) (Dec.tx [6, 9, 2, 7, 6, 9, 4, 9, 2, 4])).bind fun t232 => (offcutref01_Of.l1 k l t232 (i : Int) (u : Int) (Dec.tx []))) (fun k => ?_) (Ev.bind hm ?_)
  ·rw [offcutref01_Of.l0, show (((i + 1 : Nat) : Int) - 1) = (i : Int) from by omega, if_pos (by omega)]
   refine congrArg _ (funext fun t232 => ?_)
   rw [if_pos (by omega), if_pos (by omega), show rd l (i : Int) = (u : Int) from by rw [hu]; simp [rd]]
   rfl
  ·refine offcutref01_Of.ev_w (u := u) (by omega) (by omega) ?_ 10 u [] (by omega) (by decide) Dec.Ds.nil (by rw [List.length_nil, Dec.dv]; omega)
   rw [Dec.w64 (by omega) (by omega), ← hd]
   exact ih (by omega)
theorem offcutref01_Of.ev {l : List Int} (hW : Num.Ws l) (hl : l.length < 10000000) : Ev (fun k => offcutref01_Of.f k l) (Dec.dec (Num.nv l)) := by
 have := offcutref01_Of.ev_l hW hl l.length (Nat.le_refl _)
 rw [List.drop_length, Num.nv, Dec.dec_zero] at this
 refine Ev.congr (fun k => ?_) this
 unfold offcutref01_Of.f
 rw [Dec.w64 (by omega) (by omega)]
/-! ### offcutlaw03_Of: function 13 -/
def offcutlaw03_Of.f (k : Nat) (a0_0 : Bool) (l0_1 : List Int) (l0_2 : List Int) : Option (ByteArray × ByteArray) := (offcutref01_Of.f k l0_2).bind fun t641 => (if t641.toList = ([48] : List UInt8) then ((offcutref01_Of.f k l0_1).bind fun t642 => ((offcutref02_Made.f a0_0 t642).bind fun t643 => ((offcutref03_Low.f k t643 (⟨#[49]⟩ : ByteArray)).bind fun bt644 => (some (bt644.1, bt644.2))))) else ((offcutref01_Of.f k l0_1).bind fun t646 => ((offcutref02_Made.f a0_0 t646).bind fun t647 => ((offcutref03_Low.f k t647 t641).bind fun bt648 => (some (bt648.1, bt648.2))))))
def offcutlaw03_Of.T4 : Bool × List (List Nat × List Nat) := (true, [([], []), ([0], [0]), ([1], [1]), ([], []), ([3], [3]), ([4], [4]), ([5], [5]), ([2, 6, 6], [2, 6]), ([], []), ([7, 8, 7], [7, 8]), ([9, 9, 0, 1, 2, 3, 4, 5, 6, 7, 8, 9], [9])])
def offcutlaw03_Of.B4 : List Nat := [0, 1, 3, 0, 8, 24, 56, 127, 0, 511, 1023]
theorem offcutlaw03_Of.tab4 : rtab .any (opsOf Try.f13 4) = offcutlaw03_Of.T4 := by kernel_rfl
theorem offcutlaw03_Of.bits4 : waitsOk offcutlaw03_Of.T4.2 offcutlaw03_Of.B4 = true := by kernel_rfl
set_option maxHeartbeats 8000000 in
set_option maxRecDepth 100000 in
theorem offcutlaw03_Of.calls (k : Nat) (a0_0 : Bool) (A0_1 : Option Addr) (c0_1 : Nat) (l0_1 : List Int) (A0_2 : Option Addr) (c0_2 : Nat) (l0_2 : List Int) (r1 : ByteArray) (r2 : ByteArray) (w : World) (hr0_1 : Kd.C (Kd.int .u32) w A0_1 l0_1.length l0_1) (hc0_1 : l0_1.length ≤ c0_1) (hr0_2 : Kd.C (Kd.int .u32) w A0_2 l0_2.length l0_2) (hc0_2 : l0_2.length ≤ c0_2) (h : offcutlaw03_Of.f k a0_0 l0_1 l0_2 = some (r1, r2)) :
  Calls Try.prog 13 #[.agg #[.bool a0_0, .slice A0_1 l0_1.length c0_1, .slice A0_2 l0_2.length c0_2]] w fun e w' => e = .returned (.agg #[.string r1, .string r2]) ∧ Below w.heap.size w w' := by
 have hu27 := Try.underlying27
 have hu34 := Try.underlying34
 have HR0_1 := Aside0.mk hr0_1
 have HC0_1 := Aside0.mk hc0_1
 clear hr0_1 hc0_1
 have HR0_2 := Aside0.mk hr0_2
 have HC0_2 := Aside0.mk hc0_2
 clear hr0_2 hc0_2
 have HB := Aside0.mk (Below.refl w.heap.size w)
 have H : ((offcutref01_Of.f k l0_2).bind fun t641 => (if t641.toList = ([48] : List UInt8) then ((offcutref01_Of.f k l0_1).bind fun t642 => ((offcutref02_Made.f a0_0 t642).bind fun t643 => ((offcutref03_Low.f k t643 (⟨#[49]⟩ : ByteArray)).bind fun bt644 => (some (bt644.1, bt644.2))))) else ((offcutref01_Of.f k l0_1).bind fun t646 => ((offcutref02_Made.f a0_0 t646).bind fun t647 => ((offcutref03_Low.f k t647 t641).bind fun bt648 => (some (bt648.1, bt648.2))))))) = some (r1, r2) := h
 clear h
 replace H := Option.bind_eq_some_iff.mp H
 obtain ⟨t641, A20, H⟩ := H
 replace H : (if t641.toList = ([48] : List UInt8) then ((offcutref01_Of.f k l0_1).bind fun t642 => ((offcutref02_Made.f a0_0 t642).bind fun t643 => ((offcutref03_Low.f k t643 (⟨#[49]⟩ : ByteArray)).bind fun bt644 => (some (bt644.1, bt644.2))))) else ((offcutref01_Of.f k l0_1).bind fun t646 => ((offcutref02_Made.f a0_0 t646).bind fun t647 => ((offcutref03_Low.f k t647 t641).bind fun bt648 => (some (bt648.1, bt648.2)))))) = some (r1, r2) := H
 have A2 := Aside0.mk A20
 clear A20
 by_cases c3 : t641.toList = ([48] : List UInt8)
 ·rw [if_pos c3] at H
  have c3b0 : (t641.toList == ([48] : List UInt8)) = true := beq_iff_eq.mpr c3
  have c3b1 : (t641.toList != ([48] : List UInt8)) = false := bne_eq_false_iff_eq.mpr c3
  clear c3
  replace H := Option.bind_eq_some_iff.mp H
  obtain ⟨t642, A40, H⟩ := H
  replace H : ((offcutref02_Made.f a0_0 t642).bind fun t643 => ((offcutref03_Low.f k t643 (⟨#[49]⟩ : ByteArray)).bind fun bt644 => (some (bt644.1, bt644.2)))) = some (r1, r2) := H
  have A4 := Aside0.mk A40
  clear A40
  replace H := Option.bind_eq_some_iff.mp H
  obtain ⟨t643, A50, H⟩ := H
  replace H : ((offcutref03_Low.f k t643 (⟨#[49]⟩ : ByteArray)).bind fun bt644 => (some (bt644.1, bt644.2))) = some (r1, r2) := H
  have A5 := Aside0.mk A50
  clear A50
  replace H := Option.bind_eq_some_iff.mp H
  obtain ⟨⟨t644, t645⟩, A60, H⟩ := H
  replace H : (some (t644, t645)) = some (r1, r2) := H
  have A6 := Aside0.mk A60
  clear A60
  simp only [Option.some.injEq, Prod.mk.injEq] at H
  obtain ⟨rfl, rfl⟩ := H
  go_enter Try.func13, Try.ntmps13
  try go_wp2_with (first | ((with_reducible refine gate_dst (N := 1) rfl ?_); refine box_event ?hg (N := 1) ?hd (cs := #[.bool a0_0, .slice A0_1 l0_1.length c0_1, .slice A0_2 l0_2.length c0_2]) (t := 27) ?hr ?_; (case hd => rfl); (case hg => rfl); (case hr => first | (go_simp; done) | (go_simp; rfl)); intro gb639 hg w7 hbox hb; have BK639 := Aside0.mk (hbox); have GW639 := Aside0.mk ((by rw [hg]; exact (below_size (by repeat (first | (with_reducible first | exact HB.out | apply below_alloc | apply pw_below_drewN | apply below_drew1) | exact HB.out))) : w.heap.size ≤ gb639)); have GE639 := Aside0.mk ((by rw [hg]; exact (below_size (by repeat (first | (with_reducible first | exact HB.out | apply below_alloc | apply pw_below_drewN | apply below_drew1) | exact HB.out))) : w.heap.size ≤ gb639)); replace HB := Aside0.mk (below_step (by repeat (first | (with_reducible first | exact HB.out | apply below_alloc | apply pw_below_drewN | apply below_drew1) | exact HB.out)) hb); clear hb hbox hg) | ((with_reducible refine gate_dst (N := 2) rfl ?_); refine box_event ?hg (N := 2) ?hd (cs := #[.string (⟨#[]⟩ : ByteArray), .string (⟨#[]⟩ : ByteArray)]) (t := 34) ?hr ?_; (case hd => rfl); (case hg => rfl); (case hr => first | (go_simp; done) | (go_simp; rfl)); intro gb640 hg w8 hbox hb; have BK640 := Aside0.mk (hbox); have GW640 := Aside0.mk ((by rw [hg]; exact (below_size (by repeat (first | (with_reducible first | exact HB.out | apply below_alloc | apply pw_below_drewN | apply below_drew1 | refine below_set ?_ GE639.out) | exact HB.out))) : w.heap.size ≤ gb640)); have GE640 := Aside0.mk ((by rw [hg]; exact (below_size (by repeat (first | (with_reducible first | exact HB.out | apply below_alloc | apply pw_below_drewN | apply below_drew1 | refine below_set ?_ GE639.out) | exact HB.out))) : w.heap.size ≤ gb640)); replace HB := Aside0.mk (below_step (by repeat (first | (with_reducible first | exact HB.out | apply below_alloc | apply pw_below_drewN | apply below_drew1 | refine below_set ?_ GE639.out) | exact HB.out)) hb); have NB639_640 := Aside0.mk ((by rw [hg]; exact Nat.ne_of_lt (blk_lt (g := gb639) (o := .cells #[.bool a0_0, .slice A0_1 l0_1.length c0_1, .slice A0_2 l0_2.length c0_2] 27 (0, 0)) (by (with_reducible repeat (first | refine blk_drewN ?_ _ | refine blk_drew ?_ | refine blk_alloc ?_ _)); exact BK639.out)) : gb639 ≠ gb640)); have NB640_639 := Aside0.mk ((by rw [hg]; exact Nat.ne_of_gt (blk_lt (g := gb639) (o := .cells #[.bool a0_0, .slice A0_1 l0_1.length c0_1, .slice A0_2 l0_2.length c0_2] 27 (0, 0)) (by (with_reducible repeat (first | refine blk_drewN ?_ _ | refine blk_drew ?_ | refine blk_alloc ?_ _)); exact BK639.out)) : gb640 ≠ gb639)); replace BK639 := Aside0.mk (blk_below (g := gb639) (o := .cells #[.bool a0_0, .slice A0_1 l0_1.length c0_1, .slice A0_2 l0_2.length c0_2] 27 (0, 0)) (by (with_reducible repeat (first | refine blk_drewN ?_ _ | refine blk_drew ?_ | refine blk_alloc ?_ _)); exact BK639.out) hb); clear hb hbox hg; have hnb9 := NB639_640.out; have hnc9 := NB640_639.out; have hcz10_0 : w8.cell? ⟨gb639, 0, none⟩ = some (.bool a0_0) := (blk_cell BK639.out 0).trans rfl; have hcz10_1 : w8.cell? ⟨gb639, 1, none⟩ = some (.slice A0_1 l0_1.length c0_1) := (blk_cell BK639.out 1).trans rfl; have hcz10_2 : w8.cell? ⟨gb639, 2, none⟩ = some (.slice A0_2 l0_2.length c0_2) := (blk_cell BK639.out 2).trans rfl; have hfz10_0 := blk_frozen BK639.out 0; have hfz10_1 := blk_frozen BK639.out 1; have hfz10_2 := blk_frozen BK639.out 2) | ((with_reducible refine gate_callee (f := 47) rfl ?_); refine goesL_ (some 6) rfl rfl Try.func47 (by kernel_rfl) rfl #[.slice A0_2 l0_2.length c0_2] rfl (by (try simp only [List.map_toArray, List.map_cons, List.map_nil]); first | done | rfl | (simp only [List.length_drop, List.length_take]; rfl)) ?_; (with_reducible refine (offcutref01_Of.calls k _ _ l0_2 t641 _ ?side1 ?side2 A2.out).mono ?_); (case side1 => repeat (first | exact (Kd.C_below HR0_2.out HB.out) | (with_reducible refine Kd.C_alloc ?_ _) | (with_reducible refine Kd.C_drewN ?_ _) | (with_reducible refine Kd.C_drew ?_))); (case side2 => exact HC0_2.out); rintro e w11 ⟨rfl, hb⟩; refine ⟨_, rfl, ?_⟩; replace BK639 := Aside0.mk (blk_below (g := gb639) (o := .cells #[.bool a0_0, .slice A0_1 l0_1.length c0_1, .slice A0_2 l0_2.length c0_2] 27 (0, 0)) (by (with_reducible repeat (first | refine blk_drewN ?_ _ | refine blk_drew ?_ | refine blk_alloc ?_ _)); exact BK639.out) hb); replace BK640 := Aside0.mk (blk_below (g := gb640) (o := .cells #[.string (⟨#[]⟩ : ByteArray), .string (⟨#[]⟩ : ByteArray)] 34 (0, 0)) (by (with_reducible repeat (first | refine blk_drewN ?_ _ | refine blk_drew ?_ | refine blk_alloc ?_ _)); exact BK640.out) hb); replace HB := Aside0.mk (below_step (by repeat (first | (with_reducible first | exact HB.out | apply below_alloc | apply pw_below_drewN | apply below_drew1 | refine below_set ?_ GE639.out | refine below_set ?_ GE640.out) | exact HB.out)) hb); (try clear hb)))
  replace BK639 := Aside0.mk (blk_drew BK639.out)
  replace BK640 := Aside0.mk (blk_drew BK640.out)
  replace HB := Aside0.mk (below_drew1 HB.out)
  refine start_ (n := 11) (S := fun w' => w'.cell? ⟨gb639, 0, none⟩ = some (.bool a0_0) ∧ w'.cell? ⟨gb639, 1, none⟩ = some (.slice A0_1 l0_1.length c0_1) ∧ w'.cell? ⟨gb639, 2, none⟩ = some (.slice A0_2 l0_2.length c0_2)) (ds := []) #[false, false, false, false, false, false, false, false, false, false, false] (by kernel_rfl) rfl rfl ⟨(blk_cell BK639.out 0).trans rfl, (blk_cell BK639.out 1).trans rfl, (blk_cell BK639.out 2).trans rfl⟩ (fun hHeld => ?_); refine with_tabW offcutlaw03_Of.tab4 offcutlaw03_Of.bits4 (fun HT_ HW_ => ?_)
  generalize w11.drew = w12 at BK639 BK640 HB hHeld ⊢
  refine pure_ (i := 0) (N := some 9) (v := ?_) (a' := ?_) #[true, false, false, false, false, false, false, false, false, false, false] rfl rfl (any_of HT_.out (by kernel_rfl)) (fun _ _ _ h => h) (Or.inl ⟨by rfl, ?_⟩) ?_ ?_
  rotate_left
  ·intro w'
   go_simp
   with_reducible rfl
  rotate_left
  ·simp only [Act.put, List.setIfInBounds_toArray, List.set_cons_zero, List.set_cons_succ, i64_w, i32_w]
   rfl
  refine pure_ (i := 1) (N := some 10) (v := ?_) (a' := ?_) #[true, true, false, false, false, false, false, false, false, false, false] rfl rfl (any_of HT_.out (by kernel_rfl)) (fun _ _ _ h => h) (Or.inl ⟨by rfl, ?_⟩) ?_ ?_
  rotate_left
  ·intro w'
   go_simp
   with_reducible rfl
  rotate_left
  ·simp only [Act.put, List.setIfInBounds_toArray, List.set_cons_zero, List.set_cons_succ, i64_w, i32_w]
   rfl
  refine pure_ (i := 3) (N := some 12) (v := ?_) (a' := ?_) #[true, true, false, true, false, false, false, false, false, false, false] rfl rfl (any_of HT_.out (by kernel_rfl)) (fun _ _ _ h => h) (Or.inl ⟨by rfl, ?_⟩) ?_ ?_
  rotate_left
  ·intro w'
   go_simp
   with_reducible rfl
  rotate_left
  ·simp only [Act.put, List.setIfInBounds_toArray, List.set_cons_zero, List.set_cons_succ, i64_w, i32_w]
   rfl
  refine pure_ (i := 4) (N := some 13) (v := ?_) (a' := ?_) #[true, true, false, true, true, false, false, false, false, false, false] rfl rfl (any_of HT_.out (by kernel_rfl)) (fun _ _ _ h => h) (Or.inl ⟨by rfl, ?_⟩) ?_ ?_
  rotate_left
  ·intro w'
   go_simp
   with_reducible rfl
  rotate_left
  ·simp only [Act.put, List.setIfInBounds_toArray, List.set_cons_zero, List.set_cons_succ, i64_w, i32_w]
   rfl
  refine pure_ (i := 8) (N := some 17) (v := ?_) (a' := ?_) #[true, true, false, true, true, false, false, false, true, false, false] rfl rfl (any_of HT_.out (by kernel_rfl)) (fun _ _ _ h => h) (Or.inl ⟨by rfl, ?_⟩) ?_ ?_
  rotate_left
  ·intro w'
   go_simp
   with_reducible rfl
  rotate_left
  ·simp only [Act.put, List.setIfInBounds_toArray, List.set_cons_zero, List.set_cons_succ, i64_w, i32_w]
   rfl
  refine take_ (i := 2) (N := some 11) (v := ?_) (a' := ?_) #[true, true, true, true, true, false, false, false, true, false, false] rfl rfl (take_ofW HT_.out HW_.out (by kernel_rfl)) (fun _ _ _ h => h) (Or.inl ⟨by rfl, ?_⟩) hHeld ?_ ?_
  rotate_left
  ·rintro w' ⟨s0, s1, s2⟩
   go_simp
   with_reducible rfl
  rotate_left
  ·simp only [Act.put, List.setIfInBounds_toArray, List.set_cons_zero, List.set_cons_succ, i64_w, i32_w]
   rfl
  refine take_ (i := 5) (N := some 14) (v := ?_) (a' := ?_) #[true, true, true, true, true, true, false, false, true, false, false] rfl rfl (take_ofW HT_.out HW_.out (by kernel_rfl)) (fun _ _ _ h => h) (Or.inl ⟨by rfl, ?_⟩) hHeld ?_ ?_
  rotate_left
  ·rintro w' ⟨s0, s1, s2⟩
   go_simp
   with_reducible rfl
  rotate_left
  ·simp only [Act.put, List.setIfInBounds_toArray, List.set_cons_zero, List.set_cons_succ, i64_w, i32_w]
   rfl
  refine one_ (i := 6) (N := some 15) #[true, true, true, true, true, true, true, false, true, false, false] rfl rfl (one_of HT_.out (by kernel_rfl)) (by decide) (fun K hK => ?_)
  refine goes_ Try.func47 (by kernel_rfl) rfl #[.slice A0_1 l0_1.length c0_1] (by rfl) rfl rfl (by (try simp only [List.map_toArray, List.map_cons, List.map_nil]); first | done | rfl | (simp only [List.length_drop, List.length_take]; rfl)) ?_
  with_reducible refine (offcutref01_Of.calls k _ _ l0_1 t642 _ ?side1 ?side2 A4.out).mono ?_
  (case side1 => repeat (first | exact (Kd.C_below HR0_1.out HB.out) | (with_reducible refine Kd.C_alloc ?_ _) | (with_reducible refine Kd.C_drewN ?_ _) | (with_reducible refine Kd.C_drew ?_)))
  (case side2 => exact HC0_1.out)
  rintro e w13 ⟨rfl, hb⟩
  refine ⟨_, rfl, ?_⟩
  replace BK639 := Aside0.mk (blk_below (g := gb639) (o := .cells #[.bool a0_0, .slice A0_1 l0_1.length c0_1, .slice A0_2 l0_2.length c0_2] 27 (0, 0)) (by (with_reducible repeat (first | refine blk_drewN ?_ _ | refine blk_drew ?_ | refine blk_alloc ?_ _)); exact BK639.out) hb)
  replace BK640 := Aside0.mk (blk_below (g := gb640) (o := .cells #[.string (⟨#[]⟩ : ByteArray), .string (⟨#[]⟩ : ByteArray)] 34 (0, 0)) (by (with_reducible repeat (first | refine blk_drewN ?_ _ | refine blk_drew ?_ | refine blk_alloc ?_ _)); exact BK640.out) hb)
  replace HB := Aside0.mk (below_step (by repeat (first | (with_reducible first | exact HB.out | apply below_alloc | apply pw_below_drewN | apply below_drew1 | refine below_set ?_ GE639.out | refine below_set ?_ GE640.out) | exact HB.out)) hb)
  (try clear hb)
  refine hK.out _ _ ⟨(blk_cell BK639.out 0).trans rfl, (blk_cell BK639.out 1).trans rfl, (blk_cell BK639.out 2).trans rfl⟩ (fun hHeld => ?_)
  clear hK K
  refine norm_ (a' := ?_) ?_ ?_
  rotate_left
  ·show Act.put _ (some 15) _ = _
   simp only [Act.put, List.setIfInBounds_toArray, List.set_cons_zero, List.set_cons_succ, i64_w, i32_w]
   rfl
  refine one_ (i := 7) (N := some 16) #[true, true, true, true, true, true, true, true, true, false, false] rfl rfl (one_of HT_.out (by kernel_rfl)) (by decide) (fun K hK => ?_)
  refine goes_ Try.func48 (by kernel_rfl) rfl #[.bool a0_0, .string t642] (by rfl) rfl rfl (by (try simp only [List.map_toArray, List.map_cons, List.map_nil]); first | done | rfl | (simp only [List.length_drop, List.length_take]; rfl)) ?_
  with_reducible refine (offcutref02_Made.calls a0_0 t642 t643 _ A5.out).mono ?_
  rintro e w' ⟨rfl, ⟨nd, rfl⟩⟩
  refine ⟨_, rfl, ?_⟩
  refine hK.out _ _ ⟨(blk_cell BK639.out 0).trans rfl, (blk_cell BK639.out 1).trans rfl, (blk_cell BK639.out 2).trans rfl⟩ (fun hHeld => ?_)
  clear hK K
  refine norm_ (a' := ?_) ?_ ?_
  rotate_left
  ·show Act.put _ (some 16) _ = _
   simp only [Act.put, List.setIfInBounds_toArray, List.set_cons_zero, List.set_cons_succ, i64_w, i32_w]
   rfl
  refine one_ (i := 9) (N := some 18) #[true, true, true, true, true, true, true, true, true, true, false] rfl rfl (one_of HT_.out (by kernel_rfl)) (by decide) (fun K hK => ?_)
  refine goes_ Try.func27 (by kernel_rfl) rfl #[.string t643, .string (⟨#[49]⟩ : ByteArray)] (by rfl) rfl rfl (by (try simp only [List.map_toArray, List.map_cons, List.map_nil]); first | done | rfl | (simp only [List.length_drop, List.length_take]; rfl)) ?_
  with_reducible refine (offcutref03_Low.calls k t643 (⟨#[49]⟩ : ByteArray) t644 t645 _ A6.out).mono ?_
  rintro e w14 ⟨rfl, hb⟩
  refine ⟨_, rfl, ?_⟩
  replace BK639 := Aside0.mk (blk_below (g := gb639) (o := .cells #[.bool a0_0, .slice A0_1 l0_1.length c0_1, .slice A0_2 l0_2.length c0_2] 27 (0, 0)) (by (with_reducible repeat (first | refine blk_drewN ?_ _ | refine blk_drew ?_ | refine blk_alloc ?_ _)); exact BK639.out) hb)
  replace BK640 := Aside0.mk (blk_below (g := gb640) (o := .cells #[.string (⟨#[]⟩ : ByteArray), .string (⟨#[]⟩ : ByteArray)] 34 (0, 0)) (by (with_reducible repeat (first | refine blk_drewN ?_ _ | refine blk_drew ?_ | refine blk_alloc ?_ _)); exact BK640.out) hb)
  replace HB := Aside0.mk (below_step (by repeat (first | (with_reducible first | exact HB.out | apply below_alloc | apply pw_below_drewN | apply below_drew1 | refine below_set ?_ GE639.out | refine below_set ?_ GE640.out) | exact HB.out)) hb)
  (try clear hb)
  refine hK.out _ _ ⟨(blk_cell BK639.out 0).trans rfl, (blk_cell BK639.out 1).trans rfl, (blk_cell BK639.out 2).trans rfl⟩ (fun hHeld => ?_)
  clear hK K
  refine norm_ (a' := ?_) ?_ ?_
  rotate_left
  ·show Act.put _ (some 18) _ = _
   simp only [Act.put, List.setIfInBounds_toArray, List.set_cons_zero, List.set_cons_succ, i64_w, i32_w]
   rfl
  refine one_ (i := 10) (N := none) #[true, true, true, true, true, true, true, true, true, true, true] rfl rfl (one_of HT_.out (by kernel_rfl)) (by decide) (fun K hK => ?_)
  have hs15 : w14.cell? ⟨gb640, 0, none⟩ = some (.string (⟨#[]⟩ : ByteArray)) := (blk_cell BK640.out 0).trans rfl
  have hfs15 := blk_frozen BK640.out 0
  have hns15_0 := NB639_640.out
  have hms15_0 := NB640_639.out
  have hs16 : w14.cell? ⟨gb640, 1, none⟩ = some (.string (⟨#[]⟩ : ByteArray)) := (blk_cell BK640.out 1).trans rfl
  have hfs16 := blk_frozen BK640.out 1
  have hns16_0 := NB639_640.out
  have hms16_0 := NB640_639.out
  refine skip_ (w1 := ?_) (by rfl) rfl ?_ ?_
  rotate_left
  ·go_simp
   rfl
  refine hK.out _ _ ⟨((cell_far (p := ⟨gb640, _, none⟩) NB639_640.out _).trans (((cell_far (p := ⟨gb640, _, none⟩) NB639_640.out _).trans (hHeld.1)))), ((cell_far (p := ⟨gb640, _, none⟩) NB639_640.out _).trans (((cell_far (p := ⟨gb640, _, none⟩) NB639_640.out _).trans (hHeld.2.1)))), ((cell_far (p := ⟨gb640, _, none⟩) NB639_640.out _).trans (((cell_far (p := ⟨gb640, _, none⟩) NB639_640.out _).trans (hHeld.2.2))))⟩ (fun hHeld => ?_)
  clear hK K
  refine done_ (done_of HT_.out (by kernel_rfl)) ?_
  try go_wp2
  refine bodyPost_ret (results_cell_row rfl _ _ gb640 34 #[.string t644, .string t645] (0, 0) _ rfl (by (with_reducible repeat (first | refine blk_drewN ?_ _ | refine blk_drew ?_ | refine blk_alloc ?_ _)); refine blk_put (cs := #[.string t644, .string (⟨#[]⟩ : ByteArray)]) ?_ 1 _ rfl; (with_reducible repeat (first | refine blk_drewN ?_ _ | refine blk_drew ?_ | refine blk_alloc ?_ _)); refine blk_put (cs := #[.string (⟨#[]⟩ : ByteArray), .string (⟨#[]⟩ : ByteArray)]) ?_ 0 _ rfl; (with_reducible repeat (first | refine blk_drewN ?_ _ | refine blk_drew ?_ | refine blk_alloc ?_ _)); exact BK640.out) Try.underlying34 rfl (by kernel_rfl)) rfl ?_
  exact ⟨by first | rfl | (simp [errW_none, errW_some] <;> rfl) | (simp [*, errW_none, errW_some] <;> rfl), by repeat (first | (with_reducible first | exact HB.out | apply below_alloc | apply pw_below_drewN | apply below_drew1 | refine below_set ?_ GE639.out | refine below_set ?_ GE640.out) | exact HB.out)⟩
 ·rw [if_neg c3] at H
  have c3b0 : (t641.toList == ([48] : List UInt8)) = false := beq_eq_false_iff_ne.mpr c3
  have c3b1 : (t641.toList != ([48] : List UInt8)) = true := bne_iff_ne.mpr c3
  replace H := Option.bind_eq_some_iff.mp H
  obtain ⟨t646, A170, H⟩ := H
  replace H : ((offcutref02_Made.f a0_0 t646).bind fun t647 => ((offcutref03_Low.f k t647 t641).bind fun bt648 => (some (bt648.1, bt648.2)))) = some (r1, r2) := H
  have A17 := Aside0.mk A170
  clear A170
  replace H := Option.bind_eq_some_iff.mp H
  obtain ⟨t647, A180, H⟩ := H
  replace H : ((offcutref03_Low.f k t647 t641).bind fun bt648 => (some (bt648.1, bt648.2))) = some (r1, r2) := H
  have A18 := Aside0.mk A180
  clear A180
  replace H := Option.bind_eq_some_iff.mp H
  obtain ⟨⟨t648, t649⟩, A190, H⟩ := H
  replace H : (some (t648, t649)) = some (r1, r2) := H
  have A19 := Aside0.mk A190
  clear A190
  simp only [Option.some.injEq, Prod.mk.injEq] at H
  obtain ⟨rfl, rfl⟩ := H
  go_enter Try.func13, Try.ntmps13
  try go_wp2_with (first | ((with_reducible refine gate_dst (N := 1) rfl ?_); refine box_event ?hg (N := 1) ?hd (cs := #[.bool a0_0, .slice A0_1 l0_1.length c0_1, .slice A0_2 l0_2.length c0_2]) (t := 27) ?hr ?_; (case hd => rfl); (case hg => rfl); (case hr => first | (go_simp; done) | (go_simp; rfl)); intro gb639 hg w20 hbox hb; have BK639 := Aside0.mk (hbox); have GW639 := Aside0.mk ((by rw [hg]; exact (below_size (by repeat (first | (with_reducible first | exact HB.out | apply below_alloc | apply pw_below_drewN | apply below_drew1) | exact HB.out))) : w.heap.size ≤ gb639)); have GE639 := Aside0.mk ((by rw [hg]; exact (below_size (by repeat (first | (with_reducible first | exact HB.out | apply below_alloc | apply pw_below_drewN | apply below_drew1) | exact HB.out))) : w.heap.size ≤ gb639)); replace HB := Aside0.mk (below_step (by repeat (first | (with_reducible first | exact HB.out | apply below_alloc | apply pw_below_drewN | apply below_drew1) | exact HB.out)) hb); clear hb hbox hg) | ((with_reducible refine gate_dst (N := 2) rfl ?_); refine box_event ?hg (N := 2) ?hd (cs := #[.string (⟨#[]⟩ : ByteArray), .string (⟨#[]⟩ : ByteArray)]) (t := 34) ?hr ?_; (case hd => rfl); (case hg => rfl); (case hr => first | (go_simp; done) | (go_simp; rfl)); intro gb640 hg w21 hbox hb; have BK640 := Aside0.mk (hbox); have GW640 := Aside0.mk ((by rw [hg]; exact (below_size (by repeat (first | (with_reducible first | exact HB.out | apply below_alloc | apply pw_below_drewN | apply below_drew1 | refine below_set ?_ GE639.out) | exact HB.out))) : w.heap.size ≤ gb640)); have GE640 := Aside0.mk ((by rw [hg]; exact (below_size (by repeat (first | (with_reducible first | exact HB.out | apply below_alloc | apply pw_below_drewN | apply below_drew1 | refine below_set ?_ GE639.out) | exact HB.out))) : w.heap.size ≤ gb640)); replace HB := Aside0.mk (below_step (by repeat (first | (with_reducible first | exact HB.out | apply below_alloc | apply pw_below_drewN | apply below_drew1 | refine below_set ?_ GE639.out) | exact HB.out)) hb); have NB639_640 := Aside0.mk ((by rw [hg]; exact Nat.ne_of_lt (blk_lt (g := gb639) (o := .cells #[.bool a0_0, .slice A0_1 l0_1.length c0_1, .slice A0_2 l0_2.length c0_2] 27 (0, 0)) (by (with_reducible repeat (first | refine blk_drewN ?_ _ | refine blk_drew ?_ | refine blk_alloc ?_ _)); exact BK639.out)) : gb639 ≠ gb640)); have NB640_639 := Aside0.mk ((by rw [hg]; exact Nat.ne_of_gt (blk_lt (g := gb639) (o := .cells #[.bool a0_0, .slice A0_1 l0_1.length c0_1, .slice A0_2 l0_2.length c0_2] 27 (0, 0)) (by (with_reducible repeat (first | refine blk_drewN ?_ _ | refine blk_drew ?_ | refine blk_alloc ?_ _)); exact BK639.out)) : gb640 ≠ gb639)); replace BK639 := Aside0.mk (blk_below (g := gb639) (o := .cells #[.bool a0_0, .slice A0_1 l0_1.length c0_1, .slice A0_2 l0_2.length c0_2] 27 (0, 0)) (by (with_reducible repeat (first | refine blk_drewN ?_ _ | refine blk_drew ?_ | refine blk_alloc ?_ _)); exact BK639.out) hb); clear hb hbox hg; have hnb22 := NB639_640.out; have hnc22 := NB640_639.out; have hcz23_0 : w21.cell? ⟨gb639, 0, none⟩ = some (.bool a0_0) := (blk_cell BK639.out 0).trans rfl; have hcz23_1 : w21.cell? ⟨gb639, 1, none⟩ = some (.slice A0_1 l0_1.length c0_1) := (blk_cell BK639.out 1).trans rfl; have hcz23_2 : w21.cell? ⟨gb639, 2, none⟩ = some (.slice A0_2 l0_2.length c0_2) := (blk_cell BK639.out 2).trans rfl; have hfz23_0 := blk_frozen BK639.out 0; have hfz23_1 := blk_frozen BK639.out 1; have hfz23_2 := blk_frozen BK639.out 2) | ((with_reducible refine gate_callee (f := 47) rfl ?_); refine goesL_ (some 6) rfl rfl Try.func47 (by kernel_rfl) rfl #[.slice A0_2 l0_2.length c0_2] rfl (by (try simp only [List.map_toArray, List.map_cons, List.map_nil]); first | done | rfl | (simp only [List.length_drop, List.length_take]; rfl)) ?_; (with_reducible refine (offcutref01_Of.calls k _ _ l0_2 t641 _ ?side1 ?side2 A2.out).mono ?_); (case side1 => repeat (first | exact (Kd.C_below HR0_2.out HB.out) | (with_reducible refine Kd.C_alloc ?_ _) | (with_reducible refine Kd.C_drewN ?_ _) | (with_reducible refine Kd.C_drew ?_))); (case side2 => exact HC0_2.out); rintro e w24 ⟨rfl, hb⟩; refine ⟨_, rfl, ?_⟩; replace BK639 := Aside0.mk (blk_below (g := gb639) (o := .cells #[.bool a0_0, .slice A0_1 l0_1.length c0_1, .slice A0_2 l0_2.length c0_2] 27 (0, 0)) (by (with_reducible repeat (first | refine blk_drewN ?_ _ | refine blk_drew ?_ | refine blk_alloc ?_ _)); exact BK639.out) hb); replace BK640 := Aside0.mk (blk_below (g := gb640) (o := .cells #[.string (⟨#[]⟩ : ByteArray), .string (⟨#[]⟩ : ByteArray)] 34 (0, 0)) (by (with_reducible repeat (first | refine blk_drewN ?_ _ | refine blk_drew ?_ | refine blk_alloc ?_ _)); exact BK640.out) hb); replace HB := Aside0.mk (below_step (by repeat (first | (with_reducible first | exact HB.out | apply below_alloc | apply pw_below_drewN | apply below_drew1 | refine below_set ?_ GE639.out | refine below_set ?_ GE640.out) | exact HB.out)) hb); (try clear hb)))
  replace BK639 := Aside0.mk (blk_drew BK639.out)
  replace BK640 := Aside0.mk (blk_drew BK640.out)
  replace HB := Aside0.mk (below_drew1 HB.out)
  refine start_ (n := 11) (S := fun w' => w'.cell? ⟨gb639, 0, none⟩ = some (.bool a0_0) ∧ w'.cell? ⟨gb639, 1, none⟩ = some (.slice A0_1 l0_1.length c0_1) ∧ w'.cell? ⟨gb639, 2, none⟩ = some (.slice A0_2 l0_2.length c0_2)) (ds := []) #[false, false, false, false, false, false, false, false, false, false, false] (by kernel_rfl) rfl rfl ⟨(blk_cell BK639.out 0).trans rfl, (blk_cell BK639.out 1).trans rfl, (blk_cell BK639.out 2).trans rfl⟩ (fun hHeld => ?_); refine with_tabW offcutlaw03_Of.tab4 offcutlaw03_Of.bits4 (fun HT_ HW_ => ?_)
  generalize w24.drew = w25 at BK639 BK640 HB hHeld ⊢
  refine pure_ (i := 0) (N := some 9) (v := ?_) (a' := ?_) #[true, false, false, false, false, false, false, false, false, false, false] rfl rfl (any_of HT_.out (by kernel_rfl)) (fun _ _ _ h => h) (Or.inl ⟨by rfl, ?_⟩) ?_ ?_
  rotate_left
  ·intro w'
   go_simp
   with_reducible rfl
  rotate_left
  ·simp only [Act.put, List.setIfInBounds_toArray, List.set_cons_zero, List.set_cons_succ, i64_w, i32_w]
   rfl
  refine pure_ (i := 1) (N := some 10) (v := ?_) (a' := ?_) #[true, true, false, false, false, false, false, false, false, false, false] rfl rfl (any_of HT_.out (by kernel_rfl)) (fun _ _ _ h => h) (Or.inl ⟨by rfl, ?_⟩) ?_ ?_
  rotate_left
  ·intro w'
   go_simp
   with_reducible rfl
  rotate_left
  ·simp only [Act.put, List.setIfInBounds_toArray, List.set_cons_zero, List.set_cons_succ, i64_w, i32_w]
   rfl
  refine pure_ (i := 3) (N := some 12) (v := ?_) (a' := ?_) #[true, true, false, true, false, false, false, false, false, false, false] rfl rfl (any_of HT_.out (by kernel_rfl)) (fun _ _ _ h => h) (Or.inl ⟨by rfl, ?_⟩) ?_ ?_
  rotate_left
  ·intro w'
   go_simp
   with_reducible rfl
  rotate_left
  ·simp only [Act.put, List.setIfInBounds_toArray, List.set_cons_zero, List.set_cons_succ, i64_w, i32_w]
   rfl
  refine pure_ (i := 4) (N := some 13) (v := ?_) (a' := ?_) #[true, true, false, true, true, false, false, false, false, false, false] rfl rfl (any_of HT_.out (by kernel_rfl)) (fun _ _ _ h => h) (Or.inl ⟨by rfl, ?_⟩) ?_ ?_
  rotate_left
  ·intro w'
   go_simp
   with_reducible rfl
  rotate_left
  ·simp only [Act.put, List.setIfInBounds_toArray, List.set_cons_zero, List.set_cons_succ, i64_w, i32_w]
   rfl
  refine pure_ (i := 8) (N := some 17) (v := ?_) (a' := ?_) #[true, true, false, true, true, false, false, false, true, false, false] rfl rfl (any_of HT_.out (by kernel_rfl)) (fun _ _ _ h => h) (Or.inl ⟨by rfl, ?_⟩) ?_ ?_
  rotate_left
  ·intro w'
   go_simp
   with_reducible rfl
  rotate_left
  ·simp only [Act.put, List.setIfInBounds_toArray, List.set_cons_zero, List.set_cons_succ, i64_w, i32_w]
   rfl
  refine take_ (i := 2) (N := some 11) (v := ?_) (a' := ?_) #[true, true, true, true, true, false, false, false, true, false, false] rfl rfl (take_ofW HT_.out HW_.out (by kernel_rfl)) (fun _ _ _ h => h) (Or.inl ⟨by rfl, ?_⟩) hHeld ?_ ?_
  rotate_left
  ·rintro w' ⟨s0, s1, s2⟩
   go_simp
   with_reducible rfl
  rotate_left
  ·simp only [Act.put, List.setIfInBounds_toArray, List.set_cons_zero, List.set_cons_succ, i64_w, i32_w]
   rfl
  refine take_ (i := 5) (N := some 14) (v := ?_) (a' := ?_) #[true, true, true, true, true, true, false, false, true, false, false] rfl rfl (take_ofW HT_.out HW_.out (by kernel_rfl)) (fun _ _ _ h => h) (Or.inl ⟨by rfl, ?_⟩) hHeld ?_ ?_
  rotate_left
  ·rintro w' ⟨s0, s1, s2⟩
   go_simp
   with_reducible rfl
  rotate_left
  ·simp only [Act.put, List.setIfInBounds_toArray, List.set_cons_zero, List.set_cons_succ, i64_w, i32_w]
   rfl
  refine one_ (i := 6) (N := some 15) #[true, true, true, true, true, true, true, false, true, false, false] rfl rfl (one_of HT_.out (by kernel_rfl)) (by decide) (fun K hK => ?_)
  refine goes_ Try.func47 (by kernel_rfl) rfl #[.slice A0_1 l0_1.length c0_1] (by rfl) rfl rfl (by (try simp only [List.map_toArray, List.map_cons, List.map_nil]); first | done | rfl | (simp only [List.length_drop, List.length_take]; rfl)) ?_
  with_reducible refine (offcutref01_Of.calls k _ _ l0_1 t646 _ ?side1 ?side2 A17.out).mono ?_
  (case side1 => repeat (first | exact (Kd.C_below HR0_1.out HB.out) | (with_reducible refine Kd.C_alloc ?_ _) | (with_reducible refine Kd.C_drewN ?_ _) | (with_reducible refine Kd.C_drew ?_)))
  (case side2 => exact HC0_1.out)
  rintro e w26 ⟨rfl, hb⟩
  refine ⟨_, rfl, ?_⟩
  replace BK639 := Aside0.mk (blk_below (g := gb639) (o := .cells #[.bool a0_0, .slice A0_1 l0_1.length c0_1, .slice A0_2 l0_2.length c0_2] 27 (0, 0)) (by (with_reducible repeat (first | refine blk_drewN ?_ _ | refine blk_drew ?_ | refine blk_alloc ?_ _)); exact BK639.out) hb)
  replace BK640 := Aside0.mk (blk_below (g := gb640) (o := .cells #[.string (⟨#[]⟩ : ByteArray), .string (⟨#[]⟩ : ByteArray)] 34 (0, 0)) (by (with_reducible repeat (first | refine blk_drewN ?_ _ | refine blk_drew ?_ | refine blk_alloc ?_ _)); exact BK640.out) hb)
  replace HB := Aside0.mk (below_step (by repeat (first | (with_reducible first | exact HB.out | apply below_alloc | apply pw_below_drewN | apply below_drew1 | refine below_set ?_ GE639.out | refine below_set ?_ GE640.out) | exact HB.out)) hb)
  (try clear hb)
  refine hK.out _ _ ⟨(blk_cell BK639.out 0).trans rfl, (blk_cell BK639.out 1).trans rfl, (blk_cell BK639.out 2).trans rfl⟩ (fun hHeld => ?_)
  clear hK K
  refine norm_ (a' := ?_) ?_ ?_
  rotate_left
  ·show Act.put _ (some 15) _ = _
   simp only [Act.put, List.setIfInBounds_toArray, List.set_cons_zero, List.set_cons_succ, i64_w, i32_w]
   rfl
  refine one_ (i := 7) (N := some 16) #[true, true, true, true, true, true, true, true, true, false, false] rfl rfl (one_of HT_.out (by kernel_rfl)) (by decide) (fun K hK => ?_)
  refine goes_ Try.func48 (by kernel_rfl) rfl #[.bool a0_0, .string t646] (by rfl) rfl rfl (by (try simp only [List.map_toArray, List.map_cons, List.map_nil]); first | done | rfl | (simp only [List.length_drop, List.length_take]; rfl)) ?_
  with_reducible refine (offcutref02_Made.calls a0_0 t646 t647 _ A18.out).mono ?_
  rintro e w' ⟨rfl, ⟨nd, rfl⟩⟩
  refine ⟨_, rfl, ?_⟩
  refine hK.out _ _ ⟨(blk_cell BK639.out 0).trans rfl, (blk_cell BK639.out 1).trans rfl, (blk_cell BK639.out 2).trans rfl⟩ (fun hHeld => ?_)
  clear hK K
  refine norm_ (a' := ?_) ?_ ?_
  rotate_left
  ·show Act.put _ (some 16) _ = _
   simp only [Act.put, List.setIfInBounds_toArray, List.set_cons_zero, List.set_cons_succ, i64_w, i32_w]
   rfl
  refine one_ (i := 9) (N := some 18) #[true, true, true, true, true, true, true, true, true, true, false] rfl rfl (one_of HT_.out (by kernel_rfl)) (by decide) (fun K hK => ?_)
  refine goes_ Try.func27 (by kernel_rfl) rfl #[.string t647, .string t641] (by rfl) rfl rfl (by (try simp only [List.map_toArray, List.map_cons, List.map_nil]); first | done | rfl | (simp only [List.length_drop, List.length_take]; rfl)) ?_
  with_reducible refine (offcutref03_Low.calls k t647 t641 t648 t649 _ A19.out).mono ?_
  rintro e w27 ⟨rfl, hb⟩
  refine ⟨_, rfl, ?_⟩
  replace BK639 := Aside0.mk (blk_below (g := gb639) (o := .cells #[.bool a0_0, .slice A0_1 l0_1.length c0_1, .slice A0_2 l0_2.length c0_2] 27 (0, 0)) (by (with_reducible repeat (first | refine blk_drewN ?_ _ | refine blk_drew ?_ | refine blk_alloc ?_ _)); exact BK639.out) hb)
  replace BK640 := Aside0.mk (blk_below (g := gb640) (o := .cells #[.string (⟨#[]⟩ : ByteArray), .string (⟨#[]⟩ : ByteArray)] 34 (0, 0)) (by (with_reducible repeat (first | refine blk_drewN ?_ _ | refine blk_drew ?_ | refine blk_alloc ?_ _)); exact BK640.out) hb)
  replace HB := Aside0.mk (below_step (by repeat (first | (with_reducible first | exact HB.out | apply below_alloc | apply pw_below_drewN | apply below_drew1 | refine below_set ?_ GE639.out | refine below_set ?_ GE640.out) | exact HB.out)) hb)
  (try clear hb)
  refine hK.out _ _ ⟨(blk_cell BK639.out 0).trans rfl, (blk_cell BK639.out 1).trans rfl, (blk_cell BK639.out 2).trans rfl⟩ (fun hHeld => ?_)
  clear hK K
  refine norm_ (a' := ?_) ?_ ?_
  rotate_left
  ·show Act.put _ (some 18) _ = _
   simp only [Act.put, List.setIfInBounds_toArray, List.set_cons_zero, List.set_cons_succ, i64_w, i32_w]
   rfl
  refine one_ (i := 10) (N := none) #[true, true, true, true, true, true, true, true, true, true, true] rfl rfl (one_of HT_.out (by kernel_rfl)) (by decide) (fun K hK => ?_)
  have hs28 : w27.cell? ⟨gb640, 0, none⟩ = some (.string (⟨#[]⟩ : ByteArray)) := (blk_cell BK640.out 0).trans rfl
  have hfs28 := blk_frozen BK640.out 0
  have hns28_0 := NB639_640.out
  have hms28_0 := NB640_639.out
  have hs29 : w27.cell? ⟨gb640, 1, none⟩ = some (.string (⟨#[]⟩ : ByteArray)) := (blk_cell BK640.out 1).trans rfl
  have hfs29 := blk_frozen BK640.out 1
  have hns29_0 := NB639_640.out
  have hms29_0 := NB640_639.out
  refine skip_ (w1 := ?_) (by rfl) rfl ?_ ?_
  rotate_left
  ·go_simp
   rfl
  refine hK.out _ _ ⟨((cell_far (p := ⟨gb640, _, none⟩) NB639_640.out _).trans (((cell_far (p := ⟨gb640, _, none⟩) NB639_640.out _).trans (hHeld.1)))), ((cell_far (p := ⟨gb640, _, none⟩) NB639_640.out _).trans (((cell_far (p := ⟨gb640, _, none⟩) NB639_640.out _).trans (hHeld.2.1)))), ((cell_far (p := ⟨gb640, _, none⟩) NB639_640.out _).trans (((cell_far (p := ⟨gb640, _, none⟩) NB639_640.out _).trans (hHeld.2.2))))⟩ (fun hHeld => ?_)
  clear hK K
  refine done_ (done_of HT_.out (by kernel_rfl)) ?_
  try go_wp2
  refine bodyPost_ret (results_cell_row rfl _ _ gb640 34 #[.string t648, .string t649] (0, 0) _ rfl (by (with_reducible repeat (first | refine blk_drewN ?_ _ | refine blk_drew ?_ | refine blk_alloc ?_ _)); refine blk_put (cs := #[.string t648, .string (⟨#[]⟩ : ByteArray)]) ?_ 1 _ rfl; (with_reducible repeat (first | refine blk_drewN ?_ _ | refine blk_drew ?_ | refine blk_alloc ?_ _)); refine blk_put (cs := #[.string (⟨#[]⟩ : ByteArray), .string (⟨#[]⟩ : ByteArray)]) ?_ 0 _ rfl; (with_reducible repeat (first | refine blk_drewN ?_ _ | refine blk_drew ?_ | refine blk_alloc ?_ _)); exact BK640.out) Try.underlying34 rfl (by kernel_rfl)) rfl ?_
  exact ⟨by first | rfl | (simp [errW_none, errW_some] <;> rfl) | (simp [*, errW_none, errW_some] <;> rfl), by repeat (first | (with_reducible first | exact HB.out | apply below_alloc | apply pw_below_drewN | apply below_drew1 | refine below_set ?_ GE639.out | refine below_set ?_ GE640.out) | exact HB.out)⟩

theorem offcutlaw03_Of.ev {m : Bool} {l1 l2 : List Int} {r : Rat} {K : Nat} (h : Qn.Is m l1 l2 r K) (hK1 : 1 ≤ K) (hK : K < 300000) : Ev (fun k => offcutlaw03_Of.f k m l1 l2) (Zn.tz r.num, Dec.dec r.den) := by
 have l1K := h.num.len
 have l2K := h.len
 have O1 := offcutref01_Of.ev h.num.ws (by omega)
 have O2 := offcutref01_Of.ev h.ws (by omega)
 have ln := Dec.dc_len32 hK1 (Num.nv_lt_of h.num.ws l1K)
 have Md := offcutref02_Made.sem m (Num.nv l1) (by omega)
 have L := offcutref03_Low.ev h.num.lt (Qn.dn_lt h.ws h.len hK1) (Qn.dn_ne _) hK1 (by omega)
 rw [h.val] at L
 unfold offcutlaw03_Of.f
 refine Ev.bind O2 ?_
 by_cases h0 : Num.nv l2 = 0
 ·have e : Qn.dn (Num.nv l2) = 1 := if_pos h0
  rw [e, Dec.dec_one] at L
  exact Dec.yes ((Dec.dec_is0 _).2 h0) (Ev.bind O1 (Dec.val (fun _ => Md) (Ev.bind L (Ev.now _))))
 ·rw [Qn.dn_self h0] at L
  exact Dec.no (fun e => h0 ((Dec.dec_is0 _).1 e)) (Ev.bind O1 (Dec.val (fun _ => Md) (Ev.bind L (Ev.now _))))
section
attribute [local go_sem high] eqA34
/-! ### offcutlaw03_Is: function 15 -/
def offcutlaw03_Is.f (k : Nat) (a0_0 : Bool) (l0_1 : List Int) (l0_2 : List Int) (a1_0 : ByteArray) (a1_1 : ByteArray) : Option (Bool) := if (l0_2.length : Int) > 0 then ((rat_Right.f k a0_0 l0_1 l0_2).bind fun t652 => (if t652 = true then ((offcutlaw03_Of.f k a0_0 l0_1 l0_2).bind fun bt653 => (some (bt653.1.toList == a1_0.toList && (bt653.2.toList == a1_1.toList)))) else (some false))) else (some false)
def offcutlaw03_Is.T1 : Bool × List (List Nat × List Nat) := (true, [([], []), ([0], [0]), ([1], [1]), ([2], [2]), ([3], [3]), ([4], [4]), ([5, 4, 4], [4, 5]), ([4, 6], [4, 6]), ([7, 6], [7]), ([8], [8]), ([9, 8, 8], [8, 9]), ([8], [8]), ([10, 11, 8], [8, 10, 11]), ([8, 12], [8, 12]), ([13, 10, 0, 1, 2, 3, 4, 5, 6, 7, 8, 9, 10, 11, 12, 13], [13])])
def offcutlaw03_Is.B1 : List Nat := [0, 1, 3, 7, 15, 31, 63, 127, 255, 511, 1023, 511, 4095, 8191, 16383]
theorem offcutlaw03_Is.tab1 : rtab .any (opsOf Try.f15 1) = offcutlaw03_Is.T1 := by kernel_rfl
theorem offcutlaw03_Is.bits1 : waitsOk offcutlaw03_Is.T1.2 offcutlaw03_Is.B1 = true := by kernel_rfl
set_option maxHeartbeats 8000000 in
set_option maxRecDepth 100000 in
theorem offcutlaw03_Is.calls (k : Nat) (a0_0 : Bool) (A0_1 : Option Addr) (c0_1 : Nat) (l0_1 : List Int) (A0_2 : Option Addr) (c0_2 : Nat) (l0_2 : List Int) (a1_0 : ByteArray) (a1_1 : ByteArray) (r : Bool) (w : World) (hr0_1 : Kd.C (Kd.int .u32) w A0_1 l0_1.length l0_1) (hc0_1 : l0_1.length ≤ c0_1) (hr0_2 : Kd.C (Kd.int .u32) w A0_2 l0_2.length l0_2) (hc0_2 : l0_2.length ≤ c0_2) (h : offcutlaw03_Is.f k a0_0 l0_1 l0_2 a1_0 a1_1 = some r) :
  Calls Try.prog 15 #[.agg #[.bool a0_0, .slice A0_1 l0_1.length c0_1, .slice A0_2 l0_2.length c0_2], .agg #[.string a1_0, .string a1_1]] w fun e w' => e = .returned (.bool r) ∧ Below w.heap.size w w' := by
 have hu27 := Try.underlying27
 have hu34 := Try.underlying34
 have HR0_1 := Aside0.mk hr0_1
 have HC0_1 := Aside0.mk hc0_1
 clear hr0_1 hc0_1
 have HR0_2 := Aside0.mk hr0_2
 have HC0_2 := Aside0.mk hc0_2
 clear hr0_2 hc0_2
 have HB := Aside0.mk (Below.refl w.heap.size w)
 have H : (if (l0_2.length : Int) > 0 then ((rat_Right.f k a0_0 l0_1 l0_2).bind fun t652 => (if t652 = true then ((offcutlaw03_Of.f k a0_0 l0_1 l0_2).bind fun bt653 => (some (bt653.1.toList == a1_0.toList && (bt653.2.toList == a1_1.toList)))) else (some false))) else (some false)) = some r := h
 clear h
 by_cases c3 : (l0_2.length : Int) > 0
 ·rw [if_pos c3] at H
  have c3b0 : decide (0 < (l0_2.length : Int)) = true := decide_eq_true c3
  have c3b1 : decide (0 < l0_2.length) = true := decide_eq_true (by omega)
  clear c3
  replace H := Option.bind_eq_some_iff.mp H
  obtain ⟨t652, A40, H⟩ := H
  try dsimp only at H
  have A4 := Aside0.mk A40
  clear A40
  by_cases c5 : t652 = true
  ·subst c5
   have H1 : ((offcutlaw03_Of.f k a0_0 l0_1 l0_2).bind fun bt653 => (some (bt653.1.toList == a1_0.toList && (bt653.2.toList == a1_1.toList)))) = some r := by rw [if_pos rfl] at H; exact H
   clear H
   have H := H1
   clear H1
   replace H := Option.bind_eq_some_iff.mp H
   obtain ⟨⟨t653, t654⟩, A60, H⟩ := H
   replace H : (some (t653.toList == a1_0.toList && (t654.toList == a1_1.toList))) = some r := H
   have A6 := Aside0.mk A60
   clear A60
   obtain rfl := Option.some.inj H
   go_enter Try.func15, Try.ntmps15
   try go_wp2_with (first | ((with_reducible refine gate_dst (N := 2) rfl ?_); refine Short.boxS_ (N := 2) (cs := #[.bool a0_0, .slice A0_1 l0_1.length c0_1, .slice A0_2 l0_2.length c0_2]) (t := 27) ?_; intro gb650 hg w7 hbox hb; have BK650 := Aside0.mk (hbox); have GW650 := Aside0.mk ((by rw [hg]; exact (below_size (by repeat (first | (with_reducible first | exact HB.out | apply below_alloc | apply pw_below_drewN | apply below_drew1) | exact HB.out))) : w.heap.size ≤ gb650)); have GE650 := Aside0.mk ((by rw [hg]; exact (below_size (by repeat (first | (with_reducible first | exact HB.out | apply below_alloc | apply pw_below_drewN | apply below_drew1) | exact HB.out))) : w.heap.size ≤ gb650)); replace HB := Aside0.mk (below_step (by repeat (first | (with_reducible first | exact HB.out | apply below_alloc | apply pw_below_drewN | apply below_drew1) | exact HB.out)) hb); clear hb hbox hg) | ((with_reducible refine gate_dst (N := 3) rfl ?_); refine Short.boxS_ (N := 3) (cs := #[.string a1_0, .string a1_1]) (t := 34) ?_; intro gb651 hg w8 hbox hb; have BK651 := Aside0.mk (hbox); have GW651 := Aside0.mk ((by rw [hg]; exact (below_size HB.out) : w.heap.size ≤ gb651)); have GE651 := Aside0.mk ((by rw [hg]; exact (below_size HB.out) : w.heap.size ≤ gb651)); replace HB := Aside0.mk (below_step HB.out hb); have NB650_651 := Short.ltA_ hg BK650; have NB651_650 := Short.gtA_ hg BK650; replace BK650 := Aside0.mk (blk_below BK650.out hb); clear hb hbox hg))
   replace BK650 := Aside0.mk (blk_drew BK650.out)
   replace BK651 := Aside0.mk (blk_drew BK651.out)
   replace HB := Aside0.mk (below_drew1 HB.out)
   refine start_ (n := 15) (S := fun w' => w'.cell? ⟨gb650, 0, none⟩ = some (.bool a0_0) ∧ w'.cell? ⟨gb650, 1, none⟩ = some (.slice A0_1 l0_1.length c0_1) ∧ w'.cell? ⟨gb650, 2, none⟩ = some (.slice A0_2 l0_2.length c0_2) ∧ w'.cell? ⟨gb651, 0, none⟩ = some (.string a1_0) ∧ w'.cell? ⟨gb651, 1, none⟩ = some (.string a1_1)) (ds := []) #[false, false, false, false, false, false, false, false, false, false, false, false, false, false, false] (by kernel_rfl) rfl rfl ⟨(blk_cell BK650.out 0).trans rfl, (blk_cell BK650.out 1).trans rfl, (blk_cell BK650.out 2).trans rfl, (blk_cell BK651.out 0).trans rfl, (blk_cell BK651.out 1).trans rfl⟩ (fun hHeld => ?_); refine with_tabW offcutlaw03_Is.tab1 offcutlaw03_Is.bits1 (fun HT_ HW_ => ?_)
   generalize w8.drew = w9 at BK650 BK651 HB hHeld ⊢
   refine Short.pureS_ (i := 0) (N := some 5) #[true, false, false, false, false, false, false, false, false, false, false, false, false, false, false] (any_of HT_.out (by kernel_rfl)) ?_
   refine Short.takeS_ (i := 1) (N := some 6) #[true, true, false, false, false, false, false, false, false, false, false, false, false, false, false] (take_ofW HT_.out HW_.out (by kernel_rfl)) hHeld ?_
   refine Short.pureS_ (i := 2) (N := some 7) #[true, true, true, false, false, false, false, false, false, false, false, false, false, false, false] (any_of HT_.out (by kernel_rfl)) ?_
   refine Short.pureS_ (i := 3) (N := some 8) #[true, true, true, true, false, false, false, false, false, false, false, false, false, false, false] (any_of HT_.out (by kernel_rfl)) ?_
   refine Short.pureS_ (i := 4) (N := some 9) #[true, true, true, true, true, false, false, false, false, false, false, false, false, false, false] (any_of HT_.out (by kernel_rfl)) ?_
   refine Short.takeS_ (i := 5) (N := some 10) #[true, true, true, true, true, true, false, false, false, false, false, false, false, false, false] (take_ofW HT_.out HW_.out (by kernel_rfl)) hHeld ?_
   refine one_ (i := 6) (N := some 11) #[true, true, true, true, true, true, true, false, false, false, false, false, false, false, false] rfl rfl (one_of HT_.out (by kernel_rfl)) (by decide) (fun K hK => ?_)
   refine Short.goesD_ Try.func44 #[.agg #[.bool a0_0, .slice A0_1 l0_1.length c0_1, .slice A0_2 l0_2.length c0_2]] ?_
   with_reducible refine (rat_Right.calls k a0_0 _ _ l0_1 _ _ l0_2 true _ (Kd.C_below HR0_1.out HB.out) HC0_1.out (Kd.C_below HR0_2.out HB.out) HC0_2.out A4.out).mono ?_
   rintro e w10 ⟨rfl, hb⟩
   refine ⟨_, rfl, ?_⟩
   replace BK650 := Aside0.mk (blk_below BK650.out hb)
   replace BK651 := Aside0.mk (blk_below BK651.out hb)
   replace HB := Aside0.mk (below_step HB.out hb)
   (try clear hb)
   refine hK.out _ _ ⟨(blk_cell BK650.out 0).trans rfl, (blk_cell BK650.out 1).trans rfl, (blk_cell BK650.out 2).trans rfl, (blk_cell BK651.out 0).trans rfl, (blk_cell BK651.out 1).trans rfl⟩ (fun hHeld => ?_)
   clear hK K
   refine Short.normS_ ?_
   refine Short.pureS_ (i := 7) (N := some 12) #[true, true, true, true, true, true, true, true, false, false, false, false, false, false, false] (any_of HT_.out (by kernel_rfl)) ?_
   refine Short.pureS_ (i := 8) (N := some 13) #[true, true, true, true, true, true, true, true, true, false, false, false, false, false, false] (any_of HT_.out (by kernel_rfl)) ?_
   refine Short.takeS_ (i := 9) (N := some 14) #[true, true, true, true, true, true, true, true, true, true, false, false, false, false, false] (take_ofW HT_.out HW_.out (by kernel_rfl)) hHeld ?_
   refine Short.takeS_ (i := 11) (N := some 16) #[true, true, true, true, true, true, true, true, true, true, false, true, false, false, false] (take_ofW HT_.out HW_.out (by kernel_rfl)) hHeld ?_
   refine one_ (i := 10) (N := some 15) #[true, true, true, true, true, true, true, true, true, true, true, true, false, false, false] rfl rfl (one_of HT_.out (by kernel_rfl)) (by decide) (fun K hK => ?_)
   refine Short.goesD_ Try.func13 #[.agg #[.bool a0_0, .slice A0_1 l0_1.length c0_1, .slice A0_2 l0_2.length c0_2]] ?_
   with_reducible refine (offcutlaw03_Of.calls k a0_0 _ _ l0_1 _ _ l0_2 t653 t654 _ (Kd.C_below HR0_1.out HB.out) HC0_1.out (Kd.C_below HR0_2.out HB.out) HC0_2.out A6.out).mono ?_
   rintro e w11 ⟨rfl, hb⟩
   refine ⟨_, rfl, ?_⟩
   replace BK650 := Aside0.mk (blk_below BK650.out hb)
   replace BK651 := Aside0.mk (blk_below BK651.out hb)
   replace HB := Aside0.mk (below_step HB.out hb)
   (try clear hb)
   refine hK.out _ _ ⟨(blk_cell BK650.out 0).trans rfl, (blk_cell BK650.out 1).trans rfl, (blk_cell BK650.out 2).trans rfl, (blk_cell BK651.out 0).trans rfl, (blk_cell BK651.out 1).trans rfl⟩ (fun hHeld => ?_)
   clear hK K
   refine Short.normS_ ?_
   refine Short.pureS_ (i := 12) (N := some 17) #[true, true, true, true, true, true, true, true, true, true, true, true, true, false, false] (any_of HT_.out (by kernel_rfl)) ?_
   refine Short.pureS_ (i := 13) (N := some 18) #[true, true, true, true, true, true, true, true, true, true, true, true, true, true, false] (any_of HT_.out (by kernel_rfl)) ?_
   refine Short.pureS_ (i := 14) (N := some 4) #[true, true, true, true, true, true, true, true, true, true, true, true, true, true, true] (any_of HT_.out (by kernel_rfl)) ?_
   refine done_ (done_of HT_.out (by kernel_rfl)) ?_
   try go_wp2
   go_ret
   exact ⟨by rfl, by repeat (first | (with_reducible first | exact HB.out | apply below_alloc | apply pw_below_drewN | apply below_drew1 | refine below_set ?_ GE650.out | refine below_set ?_ GE651.out) | exact HB.out)⟩
  ·replace c5 := Bool.eq_false_iff.mpr c5
   subst c5
   have H1 : (some false) = some r := by rw [if_neg (show ¬ (false = true) by decide)] at H; exact H
   clear H
   have H := H1
   clear H1
   obtain rfl := Option.some.inj H
   go_enter Try.func15, Try.ntmps15
   try go_wp2_with (first | ((with_reducible refine gate_dst (N := 2) rfl ?_); refine Short.boxS_ (N := 2) (cs := #[.bool a0_0, .slice A0_1 l0_1.length c0_1, .slice A0_2 l0_2.length c0_2]) (t := 27) ?_; intro gb650 hg w12 hbox hb; have BK650 := Aside0.mk (hbox); have GW650 := Aside0.mk ((by rw [hg]; exact (below_size (by repeat (first | (with_reducible first | exact HB.out | apply below_alloc | apply pw_below_drewN | apply below_drew1) | exact HB.out))) : w.heap.size ≤ gb650)); have GE650 := Aside0.mk ((by rw [hg]; exact (below_size (by repeat (first | (with_reducible first | exact HB.out | apply below_alloc | apply pw_below_drewN | apply below_drew1) | exact HB.out))) : w.heap.size ≤ gb650)); replace HB := Aside0.mk (below_step (by repeat (first | (with_reducible first | exact HB.out | apply below_alloc | apply pw_below_drewN | apply below_drew1) | exact HB.out)) hb); clear hb hbox hg) | ((with_reducible refine gate_dst (N := 3) rfl ?_); refine Short.boxS_ (N := 3) (cs := #[.string a1_0, .string a1_1]) (t := 34) ?_; intro gb651 hg w13 hbox hb; have BK651 := Aside0.mk (hbox); have GW651 := Aside0.mk ((by rw [hg]; exact (below_size HB.out) : w.heap.size ≤ gb651)); have GE651 := Aside0.mk ((by rw [hg]; exact (below_size HB.out) : w.heap.size ≤ gb651)); replace HB := Aside0.mk (below_step HB.out hb); have NB650_651 := Short.ltA_ hg BK650; have NB651_650 := Short.gtA_ hg BK650; replace BK650 := Aside0.mk (blk_below BK650.out hb); clear hb hbox hg))
   replace BK650 := Aside0.mk (blk_drew BK650.out)
   replace BK651 := Aside0.mk (blk_drew BK651.out)
   replace HB := Aside0.mk (below_drew1 HB.out)
   refine start_ (n := 15) (S := fun w' => w'.cell? ⟨gb650, 0, none⟩ = some (.bool a0_0) ∧ w'.cell? ⟨gb650, 1, none⟩ = some (.slice A0_1 l0_1.length c0_1) ∧ w'.cell? ⟨gb650, 2, none⟩ = some (.slice A0_2 l0_2.length c0_2)) (ds := []) #[false, false, false, false, false, false, false, false, false, false, false, false, false, false, false] (by kernel_rfl) rfl rfl ⟨(blk_cell BK650.out 0).trans rfl, (blk_cell BK650.out 1).trans rfl, (blk_cell BK650.out 2).trans rfl⟩ (fun hHeld => ?_); refine with_tabW offcutlaw03_Is.tab1 offcutlaw03_Is.bits1 (fun HT_ HW_ => ?_)
   generalize w13.drew = w14 at BK650 BK651 HB hHeld ⊢
   refine Short.pureS_ (i := 0) (N := some 5) #[true, false, false, false, false, false, false, false, false, false, false, false, false, false, false] (any_of HT_.out (by kernel_rfl)) ?_
   refine Short.takeS_ (i := 1) (N := some 6) #[true, true, false, false, false, false, false, false, false, false, false, false, false, false, false] (take_ofW HT_.out HW_.out (by kernel_rfl)) hHeld ?_
   refine Short.pureS_ (i := 2) (N := some 7) #[true, true, true, false, false, false, false, false, false, false, false, false, false, false, false] (any_of HT_.out (by kernel_rfl)) ?_
   refine Short.pureS_ (i := 3) (N := some 8) #[true, true, true, true, false, false, false, false, false, false, false, false, false, false, false] (any_of HT_.out (by kernel_rfl)) ?_
   refine Short.pureS_ (i := 4) (N := some 9) #[true, true, true, true, true, false, false, false, false, false, false, false, false, false, false] (any_of HT_.out (by kernel_rfl)) ?_
   refine Short.takeS_ (i := 5) (N := some 10) #[true, true, true, true, true, true, false, false, false, false, false, false, false, false, false] (take_ofW HT_.out HW_.out (by kernel_rfl)) hHeld ?_
   refine one_ (i := 6) (N := some 11) #[true, true, true, true, true, true, true, false, false, false, false, false, false, false, false] rfl rfl (one_of HT_.out (by kernel_rfl)) (by decide) (fun K hK => ?_)
   refine Short.goesD_ Try.func44 #[.agg #[.bool a0_0, .slice A0_1 l0_1.length c0_1, .slice A0_2 l0_2.length c0_2]] ?_
   with_reducible refine (rat_Right.calls k a0_0 _ _ l0_1 _ _ l0_2 false _ (Kd.C_below HR0_1.out HB.out) HC0_1.out (Kd.C_below HR0_2.out HB.out) HC0_2.out A4.out).mono ?_
   rintro e w15 ⟨rfl, hb⟩
   refine ⟨_, rfl, ?_⟩
   replace BK650 := Aside0.mk (blk_below BK650.out hb)
   replace BK651 := Aside0.mk (blk_below BK651.out hb)
   replace HB := Aside0.mk (below_step HB.out hb)
   (try clear hb)
   refine hK.out _ _ ⟨(blk_cell BK650.out 0).trans rfl, (blk_cell BK650.out 1).trans rfl, (blk_cell BK650.out 2).trans rfl⟩ (fun hHeld => ?_)
   clear hK K
   refine Short.normS_ ?_
   refine Short.pureS_ (i := 7) (N := some 12) #[true, true, true, true, true, true, true, true, false, false, false, false, false, false, false] (any_of HT_.out (by kernel_rfl)) ?_
   refine Short.pureS_ (i := 8) (N := some 13) #[true, true, true, true, true, true, true, true, true, false, false, false, false, false, false] (any_of HT_.out (by kernel_rfl)) ?_
   refine pure_ (i := 9) (N := some 14) (v := undef) (a' := ?_) #[true, true, true, true, true, true, true, true, true, true, false, false, false, false, false] rfl rfl (any_of HT_.out (by kernel_rfl)) (fun _ _ _ h => h) (Or.inr ⟨by rfl, rfl⟩) ?_ ?_
   rotate_left
   ·simp only [Act.put, List.setIfInBounds_toArray, List.set_cons_zero, List.set_cons_succ, i64_w, i32_w]
    rfl
   refine pure_ (i := 10) (N := some 15) (v := undef) (a' := ?_) #[true, true, true, true, true, true, true, true, true, true, true, false, false, false, false] rfl rfl (any_of HT_.out (by kernel_rfl)) (fun _ _ _ h => h) (Or.inr ⟨by rfl, rfl⟩) ?_ ?_
   rotate_left
   ·simp only [Act.put, List.setIfInBounds_toArray, List.set_cons_zero, List.set_cons_succ, i64_w, i32_w]
    rfl
   refine pure_ (i := 11) (N := some 16) (v := undef) (a' := ?_) #[true, true, true, true, true, true, true, true, true, true, true, true, false, false, false] rfl rfl (any_of HT_.out (by kernel_rfl)) (fun _ _ _ h => h) (Or.inr ⟨by rfl, rfl⟩) ?_ ?_
   rotate_left
   ·simp only [Act.put, List.setIfInBounds_toArray, List.set_cons_zero, List.set_cons_succ, i64_w, i32_w]
    rfl
   refine pure_ (i := 12) (N := some 17) (v := undef) (a' := ?_) #[true, true, true, true, true, true, true, true, true, true, true, true, true, false, false] rfl rfl (any_of HT_.out (by kernel_rfl)) (fun _ _ _ h => h) (Or.inr ⟨by rfl, rfl⟩) ?_ ?_
   rotate_left
   ·simp only [Act.put, List.setIfInBounds_toArray, List.set_cons_zero, List.set_cons_succ, i64_w, i32_w]
    rfl
   refine Short.pureS_ (i := 13) (N := some 18) #[true, true, true, true, true, true, true, true, true, true, true, true, true, true, false] (any_of HT_.out (by kernel_rfl)) ?_
   refine Short.pureS_ (i := 14) (N := some 4) #[true, true, true, true, true, true, true, true, true, true, true, true, true, true, true] (any_of HT_.out (by kernel_rfl)) ?_
   refine done_ (done_of HT_.out (by kernel_rfl)) ?_
   try go_wp2
   go_ret
   exact ⟨by rfl, by repeat (first | (with_reducible first | exact HB.out | apply below_alloc | apply pw_below_drewN | apply below_drew1 | refine below_set ?_ GE650.out | refine below_set ?_ GE651.out) | exact HB.out)⟩
 ·rw [if_neg c3] at H
  have c3b0 : decide (0 < (l0_2.length : Int)) = false := decide_eq_false c3
  have c3b1 : decide (0 < l0_2.length) = false := decide_eq_false (by omega)
  clear c3
  obtain rfl := Option.some.inj H
  go_enter Try.func15, Try.ntmps15
  try go_wp2_with (first | ((with_reducible refine gate_dst (N := 2) rfl ?_); refine Short.boxS_ (N := 2) (cs := #[.bool a0_0, .slice A0_1 l0_1.length c0_1, .slice A0_2 l0_2.length c0_2]) (t := 27) ?_; intro gb650 hg w16 hbox hb; have BK650 := Aside0.mk (hbox); have GW650 := Aside0.mk ((by rw [hg]; exact (below_size (by repeat (first | (with_reducible first | exact HB.out | apply below_alloc | apply pw_below_drewN | apply below_drew1) | exact HB.out))) : w.heap.size ≤ gb650)); have GE650 := Aside0.mk ((by rw [hg]; exact (below_size (by repeat (first | (with_reducible first | exact HB.out | apply below_alloc | apply pw_below_drewN | apply below_drew1) | exact HB.out))) : w.heap.size ≤ gb650)); replace HB := Aside0.mk (below_step (by repeat (first | (with_reducible first | exact HB.out | apply below_alloc | apply pw_below_drewN | apply below_drew1) | exact HB.out)) hb); clear hb hbox hg) | ((with_reducible refine gate_dst (N := 3) rfl ?_); refine Short.boxS_ (N := 3) (cs := #[.string a1_0, .string a1_1]) (t := 34) ?_; intro gb651 hg w17 hbox hb; have BK651 := Aside0.mk (hbox); have GW651 := Aside0.mk ((by rw [hg]; exact (below_size HB.out) : w.heap.size ≤ gb651)); have GE651 := Aside0.mk ((by rw [hg]; exact (below_size HB.out) : w.heap.size ≤ gb651)); replace HB := Aside0.mk (below_step HB.out hb); have NB650_651 := Short.ltA_ hg BK650; have NB651_650 := Short.gtA_ hg BK650; replace BK650 := Aside0.mk (blk_below BK650.out hb); clear hb hbox hg))
  replace BK650 := Aside0.mk (blk_drew BK650.out)
  replace BK651 := Aside0.mk (blk_drew BK651.out)
  replace HB := Aside0.mk (below_drew1 HB.out)
  refine start_ (n := 15) (S := fun w' => w'.cell? ⟨gb650, 0, none⟩ = some (.bool a0_0) ∧ w'.cell? ⟨gb650, 1, none⟩ = some (.slice A0_1 l0_1.length c0_1) ∧ w'.cell? ⟨gb650, 2, none⟩ = some (.slice A0_2 l0_2.length c0_2)) (ds := []) #[false, false, false, false, false, false, false, false, false, false, false, false, false, false, false] (by kernel_rfl) rfl rfl ⟨(blk_cell BK650.out 0).trans rfl, (blk_cell BK650.out 1).trans rfl, (blk_cell BK650.out 2).trans rfl⟩ (fun hHeld => ?_); refine with_tabW offcutlaw03_Is.tab1 offcutlaw03_Is.bits1 (fun HT_ HW_ => ?_)
  generalize w17.drew = w18 at BK650 BK651 HB hHeld ⊢
  refine Short.pureS_ (i := 0) (N := some 5) #[true, false, false, false, false, false, false, false, false, false, false, false, false, false, false] (any_of HT_.out (by kernel_rfl)) ?_
  refine Short.takeS_ (i := 1) (N := some 6) #[true, true, false, false, false, false, false, false, false, false, false, false, false, false, false] (take_ofW HT_.out HW_.out (by kernel_rfl)) hHeld ?_
  refine Short.pureS_ (i := 2) (N := some 7) #[true, true, true, false, false, false, false, false, false, false, false, false, false, false, false] (any_of HT_.out (by kernel_rfl)) ?_
  refine Short.pureS_ (i := 3) (N := some 8) #[true, true, true, true, false, false, false, false, false, false, false, false, false, false, false] (any_of HT_.out (by kernel_rfl)) ?_
  refine Short.pureS_ (i := 4) (N := some 9) #[true, true, true, true, true, false, false, false, false, false, false, false, false, false, false] (any_of HT_.out (by kernel_rfl)) ?_
  refine pure_ (i := 5) (N := some 10) (v := undef) (a' := ?_) #[true, true, true, true, true, true, false, false, false, false, false, false, false, false, false] rfl rfl (any_of HT_.out (by kernel_rfl)) (fun _ _ _ h => h) (Or.inr ⟨by rfl, rfl⟩) ?_ ?_
  rotate_left
  ·simp only [Act.put, List.setIfInBounds_toArray, List.set_cons_zero, List.set_cons_succ, i64_w, i32_w]
   rfl
  refine pure_ (i := 6) (N := some 11) (v := undef) (a' := ?_) #[true, true, true, true, true, true, true, false, false, false, false, false, false, false, false] rfl rfl (any_of HT_.out (by kernel_rfl)) (fun _ _ _ h => h) (Or.inr ⟨by rfl, rfl⟩) ?_ ?_
  rotate_left
  ·simp only [Act.put, List.setIfInBounds_toArray, List.set_cons_zero, List.set_cons_succ, i64_w, i32_w]
   rfl
  refine Short.pureS_ (i := 7) (N := some 12) #[true, true, true, true, true, true, true, true, false, false, false, false, false, false, false] (any_of HT_.out (by kernel_rfl)) ?_
  refine Short.pureS_ (i := 8) (N := some 13) #[true, true, true, true, true, true, true, true, true, false, false, false, false, false, false] (any_of HT_.out (by kernel_rfl)) ?_
  refine pure_ (i := 9) (N := some 14) (v := undef) (a' := ?_) #[true, true, true, true, true, true, true, true, true, true, false, false, false, false, false] rfl rfl (any_of HT_.out (by kernel_rfl)) (fun _ _ _ h => h) (Or.inr ⟨by rfl, rfl⟩) ?_ ?_
  rotate_left
  ·simp only [Act.put, List.setIfInBounds_toArray, List.set_cons_zero, List.set_cons_succ, i64_w, i32_w]
   rfl
  refine pure_ (i := 10) (N := some 15) (v := undef) (a' := ?_) #[true, true, true, true, true, true, true, true, true, true, true, false, false, false, false] rfl rfl (any_of HT_.out (by kernel_rfl)) (fun _ _ _ h => h) (Or.inr ⟨by rfl, rfl⟩) ?_ ?_
  rotate_left
  ·simp only [Act.put, List.setIfInBounds_toArray, List.set_cons_zero, List.set_cons_succ, i64_w, i32_w]
   rfl
  refine pure_ (i := 11) (N := some 16) (v := undef) (a' := ?_) #[true, true, true, true, true, true, true, true, true, true, true, true, false, false, false] rfl rfl (any_of HT_.out (by kernel_rfl)) (fun _ _ _ h => h) (Or.inr ⟨by rfl, rfl⟩) ?_ ?_
  rotate_left
  ·simp only [Act.put, List.setIfInBounds_toArray, List.set_cons_zero, List.set_cons_succ, i64_w, i32_w]
   rfl
  refine pure_ (i := 12) (N := some 17) (v := undef) (a' := ?_) #[true, true, true, true, true, true, true, true, true, true, true, true, true, false, false] rfl rfl (any_of HT_.out (by kernel_rfl)) (fun _ _ _ h => h) (Or.inr ⟨by rfl, rfl⟩) ?_ ?_
  rotate_left
  ·simp only [Act.put, List.setIfInBounds_toArray, List.set_cons_zero, List.set_cons_succ, i64_w, i32_w]
   rfl
  refine Short.pureS_ (i := 13) (N := some 18) #[true, true, true, true, true, true, true, true, true, true, true, true, true, true, false] (any_of HT_.out (by kernel_rfl)) ?_
  refine Short.pureS_ (i := 14) (N := some 4) #[true, true, true, true, true, true, true, true, true, true, true, true, true, true, true] (any_of HT_.out (by kernel_rfl)) ?_
  refine done_ (done_of HT_.out (by kernel_rfl)) ?_
  try go_wp2
  go_ret
  exact ⟨by rfl, by repeat (first | (with_reducible first | exact HB.out | apply below_alloc | apply pw_below_drewN | apply below_drew1 | refine below_set ?_ GE650.out | refine below_set ?_ GE651.out) | exact HB.out)⟩

theorem offcutlaw03_Is.ev {r s : Rat} {K : Nat} (h : Qn.Sm r K) (hK1 : 1 ≤ K) (hK : K < 300000) : Ev (fun k => offcutlaw03_Is.f k (Qn.qd r).1 (Qn.qd r).2.1 (Qn.qd r).2.2 (Zn.tz s.num) (Dec.dec s.den)) (decide (r = s)) := by
 have hp := (Zn.nd_len_pos r.den).2 r.den_nz
 unfold offcutlaw03_Is.f
 refine Dec.yes (show ((Num.nd r.den).length : Int) > 0 by omega) (Ev.bind (rat_Right.qd h hK) (Dec.yes rfl (Ev.bind (offcutlaw03_Of.ev (Qn.Is.qd h) hK1 hK) ?_)))
 have e : ((Zn.tz r.num).toList == (Zn.tz s.num).toList && ((Dec.dec r.den).toList == (Dec.dec s.den).toList)) = decide (r = s) := by
  rw [Zn.tz_beq, Dec.dec_beq, ← Bool.decide_and]
  exact decide_eq_decide.2 ⟨fun e => Rat.ext e.1 e.2, fun e => by rw [e]; exact ⟨rfl, rfl⟩⟩
 rw [← e]
 exact Ev.now _
end
end Go.Proofs.Ytcdkopidgibijaa.PR
