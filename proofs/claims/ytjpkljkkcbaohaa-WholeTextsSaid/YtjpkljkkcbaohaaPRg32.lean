/- Several functions' printed texts in one file. -/
import Derived.Test.YtjpkljkkcbaohaaInt
import Derived.Test.YtjpkljkkcbaohaaPRg0
import Derived.Test.YtjpkljkkcbaohaaDec
import Derived.Test.YtjpkljkkcbaohaaNum
import Derived.Test.YtjpkljkkcbaohaaPRg9
section
namespace Go.Proofs.Ytjpkljkkcbaohaa.PR
open Go.RowKit Go.Proofs.YtjpkljkkcbaohaaW.PrintWords Go.Proofs.YtjpkljkkcbaohaaW.PrintLast Go.Proofs.YtjpkljkkcbaohaaW.PrintMore
attribute [local go_sem] max2_int min2_int max_two min_two max_three min_three max_four min_four   -- for this text's walks alone
set_option linter.unusedVariables false
set_option linter.unusedSimpArgs false

/-! ### offcutref02_Made: function 42 -/
def offcutref02_Made.f (a0 : Bool) (a1 : ByteArray) : Option (ByteArray) := if a0 = true then (if a1.toList = ([48] : List UInt8) then (some a1) else (if 1 + a1.size ≤ 9223372036854775807 then (some ((⟨#[45]⟩ : ByteArray) ++ a1)) else (none))) else (some a1)
set_option maxHeartbeats 8000000 in
set_option maxRecDepth 100000 in
theorem offcutref02_Made.calls (a0 : Bool) (a1 : ByteArray) (r : ByteArray) (w : World) (h : offcutref02_Made.f a0 a1 = some r) :
    Calls Try.prog 42 #[.bool a0, .string a1] w fun e w' => e = .returned (.string r) ∧ Drawn0 w w' := by
  have H : (if a0 = true then (if a1.toList = ([48] : List UInt8) then (some a1) else (if 1 + a1.size ≤ 9223372036854775807 then (some ((⟨#[45]⟩ : ByteArray) ++ a1)) else (none))) else (some a1)) = some r := h
  clear h
  by_cases c3 : a0 = true
  · subst c3
    have H1 : (if a1.toList = ([48] : List UInt8) then (some a1) else (if 1 + a1.size ≤ 9223372036854775807 then (some ((⟨#[45]⟩ : ByteArray) ++ a1)) else (none))) = some r := by rw [if_pos rfl] at H; exact H
    clear H
    have H := H1
    clear H1
    by_cases c4 : a1.toList = ([48] : List UInt8)
    · rw [if_pos c4] at H
      have c4b0 : (a1.toList == ([48] : List UInt8)) = true := beq_iff_eq.mpr c4
      have c4b1 : (a1.toList != ([48] : List UInt8)) = false := bne_eq_false_iff_eq.mpr c4
      clear c4
      obtain rfl := Option.some.inj H
      go_enter Try.func42, Try.ntmps42
      go_wp2
      go_ret
      exact ⟨by first | rfl | (simp; done) | (simp [*]; done), by repeat (first | exact Drawn0.refl _ | apply Drawn0.step)⟩
    · rw [if_neg c4] at H
      have c4b0 : (a1.toList == ([48] : List UInt8)) = false := beq_eq_false_iff_ne.mpr c4
      have c4b1 : (a1.toList != ([48] : List UInt8)) = true := bne_iff_ne.mpr c4
      by_cases c5 : 1 + a1.size ≤ 9223372036854775807
      · rw [if_pos c5] at H
        have c5b0 := eq_true c5
        have c5b1 : decide (1 + a1.size ≤ 9223372036854775807) = true := decide_eq_true c5
        try have c5b2 : (9223372036854775807 < 1 + a1.size) = False := eq_false (Nat.not_lt.2 c5)
        obtain rfl := Option.some.inj H
        go_enter Try.func42, Try.ntmps42
        go_wp2
        go_ret
        exact ⟨by first | rfl | (simp; done) | (simp [*]; done), by repeat (first | exact Drawn0.refl _ | apply Drawn0.step)⟩
      · rw [if_neg c5] at H
        exact absurd H (by simp)
  · replace c3 := Bool.eq_false_iff.mpr c3
    subst c3
    have H1 : (some a1) = some r := by rw [if_neg (show ¬ (false = true) by decide)] at H; exact H
    clear H
    have H := H1
    clear H1
    obtain rfl := Option.some.inj H
    go_enter Try.func42, Try.ntmps42
    go_wp2
    go_ret
    exact ⟨by first | rfl | (simp; done) | (simp [*]; done), by repeat (first | exact Drawn0.refl _ | apply Drawn0.step)⟩

theorem offcutref02_Made.sem (m : Bool) (n : Nat) (hn : (Dec.dc n).length < 9000000000000000000) : offcutref02_Made.f m (Dec.dec n) = some (Zn.tz (Zn.zv m n)) := by
  unfold offcutref02_Made.f
  rw [Zn.tz_zv]
  cases m
  · rw [if_neg (by decide), if_neg (by simp)]
  · rw [if_pos rfl]
    by_cases h : n = 0
    · rw [if_pos ((Dec.dec_is0 n).2 h), if_neg (fun e => e.2 h)]
    · rw [if_neg (fun e => h ((Dec.dec_is0 n).1 e)), if_pos (by rw [Zn.dec_size]; omega), if_pos ⟨rfl, h⟩]

end Go.Proofs.Ytjpkljkkcbaohaa.PR

end
section
namespace Go.Proofs.Ytjpkljkkcbaohaa.PR
open Go.RowKit Go.Proofs.YtjpkljkkcbaohaaW.PrintWords Go.Proofs.YtjpkljkkcbaohaaW.PrintLast Go.Proofs.YtjpkljkkcbaohaaW.PrintMore
attribute [local go_sem] max2_int min2_int max_two min_two max_three min_three max_four min_four   -- for this text's walks alone
set_option linter.unusedVariables false
set_option linter.unusedSimpArgs false

/-! ### offcutref01_sign: function 91 -/
def offcutref01_sign.f (a0 : Int) : Option (ByteArray) := if 0 ≤ a0 then (if a0 ≤ (wrap64 (a0 + 1)) then (if (wrap64 (a0 + 1)) ≤ 10 then (some ((⟨#[48, 49, 50, 51, 52, 53, 54, 55, 56, 57]⟩ : ByteArray).extract (a0 : Int).toNat ((wrap64 (a0 + 1)) : Int).toNat)) else (none)) else (none)) else (none)
set_option maxHeartbeats 8000000 in
set_option maxRecDepth 100000 in
theorem offcutref01_sign.calls (a0 : Int) (r : ByteArray) (w : World) (h : offcutref01_sign.f a0 = some r) :
    Calls Try.prog 91 #[.int .i64 a0] w fun e w' => e = .returned (.string r) ∧ Drawn0 w w' := by
  have H : (if 0 ≤ a0 then (if a0 ≤ (wrap64 (a0 + 1)) then (if (wrap64 (a0 + 1)) ≤ 10 then (some ((⟨#[48, 49, 50, 51, 52, 53, 54, 55, 56, 57]⟩ : ByteArray).extract (a0 : Int).toNat ((wrap64 (a0 + 1)) : Int).toNat)) else (none)) else (none)) else (none)) = some r := h
  clear h
  by_cases c2 : 0 ≤ a0
  · rw [if_pos c2] at H
    have c2b0 := eq_true c2
    have c2b1 : decide (0 ≤ a0) = true := decide_eq_true c2
    clear c2
    by_cases c3 : a0 ≤ (wrap64 (a0 + 1))
    · rw [if_pos c3] at H
      have c3b0 := eq_true c3
      have c3b1 : decide (a0 ≤ (wrap64 (a0 + 1))) = true := decide_eq_true c3
      by_cases c4 : (wrap64 (a0 + 1)) ≤ 10
      · rw [if_pos c4] at H
        have c4b0 := eq_true c4
        have c4b1 : decide ((wrap64 (a0 + 1)) ≤ 10) = true := decide_eq_true c4
        obtain rfl := Option.some.inj H
        go_enter Try.func91, Try.ntmps91
        go_wp2
        go_ret
        exact ⟨by first | rfl | (simp; done) | (simp [*]; done), by repeat (first | exact Drawn0.refl _ | apply Drawn0.step)⟩
      · rw [if_neg c4] at H
        exact absurd H (by simp)
    · rw [if_neg c3] at H
      exact absurd H (by simp)
  · rw [if_neg c2] at H
    exact absurd H (by simp)

theorem offcutref01_sign.sem (d : Nat) (h : d < 10) : offcutref01_sign.f (d : Int) = some (Dec.tx [d]) := by
  have : d = 0 ∨ d = 1 ∨ d = 2 ∨ d = 3 ∨ d = 4 ∨ d = 5 ∨ d = 6 ∨ d = 7 ∨ d = 8 ∨ d = 9 := by omega
  unfold offcutref01_sign.f
  rw [if_pos (by omega), Dec.w64s _ (by omega), if_pos (by omega), if_pos (by omega), Int.toNat_natCast, Int.toNat_natCast]
  show some ((ByteArray.mk (([48, 49, 50, 51, 52, 53, 54, 55, 56, 57] : List UInt8).toArray)).extract d (d + 1)) = _
  rw [ByteArray.extract_mk]
  rcases this with rfl | rfl | rfl | rfl | rfl | rfl | rfl | rfl | rfl | rfl <;> rfl

end Go.Proofs.Ytjpkljkkcbaohaa.PR

end
section
namespace Go.Proofs.Ytjpkljkkcbaohaa.PR
open Go.RowKit Go.Proofs.YtjpkljkkcbaohaaW.PrintWords Go.Proofs.YtjpkljkkcbaohaaW.PrintLast Go.Proofs.YtjpkljkkcbaohaaW.PrintMore
attribute [local go_sem] max2_int min2_int max_two min_two max_three min_three max_four min_four   -- for this text's walks alone
set_option linter.unusedVariables false
set_option linter.unusedSimpArgs false

/-! ### offcutref01_cut: function 92 -/
def offcutref01_cut.l0 : Nat → ByteArray → Option (ByteArray)
  | 0, _ => none
  | k + 1, x0 => if (x0.size : Int) > 1 then (if 0 < (x0.size : Int) then (if (bt x0 0) = 48 then (if 1 ≤ (x0.size : Int) then (offcutref01_cut.l0 k (x0.extract 1 x0.size)) else (none)) else (if x0.toList = ([] : List UInt8) then (some (⟨#[48]⟩ : ByteArray)) else (some x0))) else (none)) else (if x0.toList = ([] : List UInt8) then (some (⟨#[48]⟩ : ByteArray)) else (some x0))
def offcutref01_cut.f (k : Nat) (a0 : ByteArray) : Option (ByteArray) := offcutref01_cut.l0 k a0
theorem offcutref01_cut.mono_l : ∀ k, (∀ y0, LeO (offcutref01_cut.l0 k y0) (offcutref01_cut.l0 (k + 1) y0))
  | 0 => fun _ r h => by simp [offcutref01_cut.l0] at h
  | k + 1 => by
    have ih0 := offcutref01_cut.mono_l k
    · intro y0
      unfold offcutref01_cut.l0
      repeat' first
      | (with_reducible exact ih0 _)
      | (with_reducible exact LeO.refl _)
      | (with_reducible exact LeO.none _)
      | (with_reducible refine LeO.ite ?_ ?_)
      | (with_reducible refine LeO.bind ?_ (fun _ => ?_))
      | exact ih0 _
      | exact LeO.none _
      | refine LeO.ite ?_ ?_
      | refine LeO.bind ?_ (fun _ => ?_)
theorem offcutref01_cut.mono : ∀ a0 k, LeO (offcutref01_cut.f k a0) (offcutref01_cut.f (k + 1) a0) := by
  intro a0 k
  have ih0 := offcutref01_cut.mono_l k
  unfold offcutref01_cut.f
  repeat' first
      | (with_reducible exact ih0 _)
      | (with_reducible exact LeO.refl _)
      | (with_reducible exact LeO.none _)
      | (with_reducible refine LeO.ite ?_ ?_)
      | (with_reducible refine LeO.bind ?_ (fun _ => ?_))
      | exact ih0 _
      | exact LeO.none _
      | refine LeO.ite ?_ ?_
      | refine LeO.bind ?_ (fun _ => ?_)
set_option maxHeartbeats 8000000 in
set_option maxRecDepth 100000 in
theorem offcutref01_cut.calls (k : Nat) (a0 : ByteArray) (r : ByteArray) (w : World) (h : offcutref01_cut.f k a0 = some r) :
    Calls Try.prog 92 #[.string a0] w fun e w' => e = .returned (.string r) ∧ Drawn0 w w' := by
  have H : (offcutref01_cut.l0 k a0) = some r := h
  clear h
  have H' := Aside0.mk H
  clear H
  go_enter Try.func92, Try.ntmps92
  go_wp2
  go_loopg [0] k (fun kq v0 w' => ∃ (x0_1 : ByteArray), v0 = .string x0_1 ∧ Aside0 (offcutref01_cut.l0 kq x0_1 = some r) ∧ Aside0 (kq ≤ k) ∧ Drawn0 w w')
  case atStart => exact ⟨(a0), (by first | rfl | (simp; done) | (simp [*]; done)), H', ⟨Nat.le_refl _⟩, by repeat (first | exact Drawn0.refl _ | apply Drawn0.step)⟩
  case round =>
    clear H'
    obtain ⟨x0_1, rfl, HA, HK1, ⟨m1, rfl⟩⟩ := hrel
    cases gk with
    | zero => exact absurd HA.out (by simp [offcutref01_cut.l0])
    | succ k1 =>
      have H := HA.out
      clear HA
      simp only [offcutref01_cut.l0] at H
      by_cases c2 : (x0_1.size : Int) > 1
      · rw [if_pos c2] at H
        have c2b0 : decide (1 < (x0_1.size : Int)) = true := decide_eq_true c2
        have c2b1 : decide (1 < x0_1.size) = true := decide_eq_true (by omega)
        clear c2
        by_cases c3 : 0 < (x0_1.size : Int)
        · rw [if_pos c3] at H
          have c3b0 : decide (0 < (x0_1.size : Int)) = true := decide_eq_true c3
          have c3b1 : decide (0 < x0_1.size) = true := decide_eq_true (by omega)
          clear c3
          by_cases c5 : (bt x0_1 0) = 48
          · rw [if_pos c5] at H
            have c5b0 : ((bt x0_1 0) == 48) = true := beq_iff_eq.mpr c5
            have c5b1 : ((bt x0_1 0) != 48) = false := bne_eq_false_iff_eq.mpr c5
            clear c5
            by_cases c6 : 1 ≤ (x0_1.size : Int)
            · rw [if_pos c6] at H
              have c6b0 := eq_true c6
              have c6b1 : decide (1 ≤ (x0_1.size : Int)) = true := decide_eq_true c6
              clear c6
              have H' := Aside0.mk H
              clear H
              have p4 : 0 ≤ (0 : Int) := (by omega)
              have q4 : 0 < x0_1.size := (by have : (0 : Int) < (x0_1.size : Int) := of_decide_eq_true (by first | (with_reducible assumption) | assumption); omega)
              have hx4 : ∀ h : 0 < x0_1.size, ((x0_1[0]'h).toNat : Int) = bt x0_1 0 := bt_at x0_1 0
              clear p4
              have qi4 : (0 < (x0_1.size : Int)) = True := eq_true (of_decide_eq_true (by first | (with_reducible assumption) | assumption))
              replace q4 := eq_true q4
              go_wp2
              go_roundg k1
              case measure => have := HK1.out; omega
              case rel => exact ⟨(x0_1.extract 1 x0_1.size), (by first | rfl | (simp; done) | (simp [*]; done)), H', ⟨by have := HK1.out; omega⟩, by repeat (first | exact Drawn0.refl _ | apply Drawn0.step)⟩
            · rw [if_neg c6] at H
              exact absurd H (by simp)
          · rw [if_neg c5] at H
            have c5b0 : ((bt x0_1 0) == 48) = false := beq_eq_false_iff_ne.mpr c5
            have c5b1 : ((bt x0_1 0) != 48) = true := bne_iff_ne.mpr c5
            by_cases c7 : x0_1.toList = ([] : List UInt8)
            · rw [if_pos c7] at H
              have c7b0 : (x0_1.toList == ([] : List UInt8)) = true := beq_iff_eq.mpr c7
              have c7b1 : (x0_1.toList != ([] : List UInt8)) = false := bne_eq_false_iff_eq.mpr c7
              clear c7
              obtain rfl := Option.some.inj H
              have p4 : 0 ≤ (0 : Int) := (by omega)
              have q4 : 0 < x0_1.size := (by have : (0 : Int) < (x0_1.size : Int) := of_decide_eq_true (by first | (with_reducible assumption) | assumption); omega)
              have hx4 : ∀ h : 0 < x0_1.size, ((x0_1[0]'h).toNat : Int) = bt x0_1 0 := bt_at x0_1 0
              clear p4
              have qi4 : (0 < (x0_1.size : Int)) = True := eq_true (of_decide_eq_true (by first | (with_reducible assumption) | assumption))
              replace q4 := eq_true q4
              go_wp2
              go_ret
              exact ⟨by first | rfl | (simp; done) | (simp [*]; done), by repeat (first | exact Drawn0.refl _ | apply Drawn0.step)⟩
            · rw [if_neg c7] at H
              have c7b0 : (x0_1.toList == ([] : List UInt8)) = false := beq_eq_false_iff_ne.mpr c7
              have c7b1 : (x0_1.toList != ([] : List UInt8)) = true := bne_iff_ne.mpr c7
              obtain rfl := Option.some.inj H
              have p4 : 0 ≤ (0 : Int) := (by omega)
              have q4 : 0 < x0_1.size := (by have : (0 : Int) < (x0_1.size : Int) := of_decide_eq_true (by first | (with_reducible assumption) | assumption); omega)
              have hx4 : ∀ h : 0 < x0_1.size, ((x0_1[0]'h).toNat : Int) = bt x0_1 0 := bt_at x0_1 0
              clear p4
              have qi4 : (0 < (x0_1.size : Int)) = True := eq_true (of_decide_eq_true (by first | (with_reducible assumption) | assumption))
              replace q4 := eq_true q4
              go_wp2
              go_ret
              exact ⟨by first | rfl | (simp; done) | (simp [*]; done), by repeat (first | exact Drawn0.refl _ | apply Drawn0.step)⟩
        · rw [if_neg c3] at H
          exact absurd H (by simp)
      · rw [if_neg c2] at H
        have c2b0 : decide (1 < (x0_1.size : Int)) = false := decide_eq_false c2
        have c2b1 : decide (1 < x0_1.size) = false := decide_eq_false (by omega)
        clear c2
        by_cases c8 : x0_1.toList = ([] : List UInt8)
        · rw [if_pos c8] at H
          have c8b0 : (x0_1.toList == ([] : List UInt8)) = true := beq_iff_eq.mpr c8
          have c8b1 : (x0_1.toList != ([] : List UInt8)) = false := bne_eq_false_iff_eq.mpr c8
          clear c8
          obtain rfl := Option.some.inj H
          go_wp2
          go_ret
          exact ⟨by first | rfl | (simp; done) | (simp [*]; done), by repeat (first | exact Drawn0.refl _ | apply Drawn0.step)⟩
        · rw [if_neg c8] at H
          have c8b0 : (x0_1.toList == ([] : List UInt8)) = false := beq_eq_false_iff_ne.mpr c8
          have c8b1 : (x0_1.toList != ([] : List UInt8)) = true := bne_iff_ne.mpr c8
          obtain rfl := Option.some.inj H
          go_wp2
          go_ret
          exact ⟨by first | rfl | (simp; done) | (simp [*]; done), by repeat (first | exact Drawn0.refl _ | apply Drawn0.step)⟩

theorem offcutref01_cut.ev_n (n : Nat) : ∀ {l : List Nat}, l.length = n → Dec.Ds l → Ev (fun k => offcutref01_cut.f k (Dec.tx l)) (Dec.dec (Dec.dv l)) := by
  induction n with
  | zero =>
    intro l hl h
    obtain rfl : l = [] := List.eq_nil_of_length_eq_zero hl
    refine Ev.step (f := fun _ => some (Dec.dec (Dec.dv []))) (fun k => ?_) (Ev.now _)
    show offcutref01_cut.l0 (k + 1) _ = _
    rw [offcutref01_cut.l0, Dec.tx_size, if_neg (by simp), if_pos (by rw [Dec.tx_toList]; rfl), ← Dec.dec_zero]
    rfl
  | succ n ih =>
    intro l hl h
    rcases List.eq_nil_or_concat l with rfl | ⟨l', d, rfl⟩
    · simp at hl
    · rw [List.concat_eq_append] at hl h ⊢
      have hd : d < 10 := h.right.head
      have hn : l'.length = n := by simpa using hl
      have hnn : (Dec.tx (l' ++ [d])).toList ≠ [] := by rw [Dec.tx_toList]; simp
      have hbt := Dec.bt_tx h 0 (by simp)
      rw [show (l' ++ [d]).length - 1 - 0 = l'.length from by simp] at hbt
      rw [show (l' ++ [d]).getD l'.length 0 = d from by simp] at hbt
      by_cases h0 : n = 0
      · obtain rfl : l' = [] := List.eq_nil_of_length_eq_zero (by omega)
        refine Ev.step (f := fun _ => some (Dec.tx ([] ++ [d]))) (fun k => ?_) ?_
        · show offcutref01_cut.l0 (k + 1) _ = _
          rw [offcutref01_cut.l0, Dec.tx_size, if_neg (by simp), if_neg hnn]
        · by_cases hd0 : d = 0
          · subst hd0
            exact Ev.now _
          · unfold Dec.dec
            rw [Dec.dc_snoc Dec.Ds.nil hd hd0]
            exact Ev.now _
      · by_cases hd0 : d = 0
        · subst hd0
          refine Ev.step (f := fun k => offcutref01_cut.f k (Dec.tx l')) (fun k => ?_) ?_
          · show offcutref01_cut.l0 (k + 1) _ = offcutref01_cut.l0 k _
            rw [offcutref01_cut.l0, Dec.tx_tail, Dec.tx_size, if_pos (by simp <;> omega), if_pos (by simp <;> omega), if_pos (by rw [← Int.natCast_zero, hbt] <;> rfl), if_pos (by simp <;> omega)]
          · rw [Dec.dv_snoc, Nat.mul_zero, Nat.add_zero]
            exact ih hn h.left
        · refine Ev.step (f := fun _ => some (Dec.tx (l' ++ [d]))) (fun k => ?_) ?_
          · show offcutref01_cut.l0 (k + 1) _ = _
            rw [offcutref01_cut.l0, Dec.tx_size, if_pos (by simp <;> omega), if_pos (by simp <;> omega), if_neg (by rw [← Int.natCast_zero, hbt] <;> omega), if_neg hnn]
          · unfold Dec.dec
            rw [Dec.dc_snoc h.left hd hd0]
            exact Ev.now _
theorem offcutref01_cut.ev {l : List Nat} (h : Dec.Ds l) : Ev (fun k => offcutref01_cut.f k (Dec.tx l)) (Dec.dec (Dec.dv l)) := offcutref01_cut.ev_n _ rfl h

end Go.Proofs.Ytjpkljkkcbaohaa.PR

end
section
namespace Go.Proofs.Ytjpkljkkcbaohaa.PR
open Go.RowKit Go.Proofs.YtjpkljkkcbaohaaW.PrintWords Go.Proofs.YtjpkljkkcbaohaaW.PrintLast Go.Proofs.YtjpkljkkcbaohaaW.PrintMore
attribute [local go_sem] max2_int min2_int max_two min_two max_three min_three max_four min_four   -- for this text's walks alone
set_option linter.unusedVariables false
set_option linter.unusedSimpArgs false

/-! ### offcutref01_at: function 101 -/
def offcutref01_at.f (a0 : ByteArray) (a1 : Int) : Option (Int) := if a1 < (a0.size : Int) then (if 0 ≤ (wrap64 ((wrap64 ((a0.size : Int) - 1)) - a1)) then (if (wrap64 ((wrap64 ((a0.size : Int) - 1)) - a1)) < (a0.size : Int) then (some (((bt a0 (wrap64 ((wrap64 ((a0.size : Int) - 1)) - a1))) - 48) % 256)) else (none)) else (none)) else (some 0)
set_option maxHeartbeats 8000000 in
set_option maxRecDepth 100000 in
theorem offcutref01_at.calls (a0 : ByteArray) (a1 : Int) (r : Int) (w : World) (h : offcutref01_at.f a0 a1 = some r) :
    Calls Try.prog 101 #[.string a0, .int .i64 a1] w fun e w' => e = .returned (.int .i64 r) ∧ Drawn0 w w' := by
  have H : (if a1 < (a0.size : Int) then (if 0 ≤ (wrap64 ((wrap64 ((a0.size : Int) - 1)) - a1)) then (if (wrap64 ((wrap64 ((a0.size : Int) - 1)) - a1)) < (a0.size : Int) then (some (((bt a0 (wrap64 ((wrap64 ((a0.size : Int) - 1)) - a1))) - 48) % 256)) else (none)) else (none)) else (some 0)) = some r := h
  clear h
  by_cases c3 : a1 < (a0.size : Int)
  · rw [if_pos c3] at H
    have c3b0 : decide (a1 < (a0.size : Int)) = true := decide_eq_true c3
    clear c3
    obtain ⟨ji4, hji4⟩ : ∃ j_ : Int, (wrap64 ((wrap64 ((a0.size : Int) - 1)) - a1)) = j_ := ⟨_, rfl⟩
    replace H : (if 0 ≤ (ji4) then (if (ji4) < (a0.size : Int) then (some (((bt a0 (ji4)) - 48) % 256)) else (none)) else (none)) = some r := by first | (rw [hji4] at H; exact H) | (simp only [hji4] at H ⊢; exact H)
    have hji4w : (IntKind.i64.wrap ((wrap64 ((a0.size : Int) - 1)) - a1)) = ji4 := (i64_w _).trans hji4
    by_cases c5 : 0 ≤ (ji4)
    · rw [if_pos c5] at H
      have c5b0 : decide (0 ≤ (ji4)) = true := decide_eq_true c5
      clear c5
      by_cases c6 : (ji4) < (a0.size : Int)
      · rw [if_pos c6] at H
        have c6b0 : decide ((ji4) < (a0.size : Int)) = true := decide_eq_true c6
        clear c6
        obtain rfl := Option.some.inj H
        have p7 : 0 ≤ ((ji4) : Int) := of_decide_eq_true (by first | (with_reducible assumption) | assumption)
        have q7 : (ji4) < (a0.size : Int) := of_decide_eq_true (by first | (with_reducible assumption) | assumption)
        have hx7 := bt_at a0 (ji4)
        replace p7 := eq_true p7
        replace q7 := eq_true q7
        go_enter Try.func101, Try.ntmps101
        go_wp2
        go_ret
        exact ⟨by first | rfl | (simp; done) | (simp only [← hji4] <;> (first | rfl | simp)) | (simp [*]; done), by repeat (first | exact Drawn0.refl _ | apply Drawn0.step)⟩
      · rw [if_neg c6] at H
        exact absurd H (by simp)
    · rw [if_neg c5] at H
      exact absurd H (by simp)
  · rw [if_neg c3] at H
    have c3b0 : decide (a1 < (a0.size : Int)) = false := decide_eq_false c3
    clear c3
    obtain rfl := Option.some.inj H
    go_enter Try.func101, Try.ntmps101
    go_wp2
    go_ret
    exact ⟨by first | rfl | (simp; done) | (simp [*]; done), by repeat (first | exact Drawn0.refl _ | apply Drawn0.step)⟩

theorem offcutref01_at.sem {l : List Nat} (h : Dec.Ds l) (hl : l.length < 9223372036854775807) (i : Nat) : offcutref01_at.f (Dec.tx l) (i : Int) = some ((l.getD i 0 : Nat) : Int) := by
  unfold offcutref01_at.f
  rw [Dec.tx_size]
  by_cases hi : i < l.length
  · rw [if_pos (by omega), Dec.w64p _ (by omega) (by omega), Dec.w64d _ _ (by omega) (by omega), if_pos (by omega), if_pos (by omega), Dec.bt_tx h _ (by omega)]
    have := h.getD i
    rw [show l.length - 1 - (l.length - 1 - i) = i from by omega]
    congr 1
    omega
  · rw [if_neg (by omega), List.getD_eq_getElem?_getD, List.getElem?_eq_none (by omega)]
    rfl

end Go.Proofs.Ytjpkljkkcbaohaa.PR

end
section
namespace Go.Proofs.Ytjpkljkkcbaohaa.PR
open Go.RowKit Go.Proofs.YtjpkljkkcbaohaaW.PrintWords Go.Proofs.YtjpkljkkcbaohaaW.PrintLast Go.Proofs.YtjpkljkkcbaohaaW.PrintMore
attribute [local go_sem] max2_int min2_int max_two min_two max_three min_three max_four min_four   -- for this text's walks alone
set_option linter.unusedVariables false
set_option linter.unusedSimpArgs false

/-! ### offcutref01_Add: function 74 -/
mutual
def offcutref01_Add.l0 : Nat → ByteArray → ByteArray → ByteArray → Int → Int → Option (ByteArray)
  | 0, _, _, _, _, _ => none
  | k + 1, x0, x1, x5, x6, x7 => if x7 ≤ (x0.size : Int) then (offcutref01_Add.j1 k x0 x1 x5 x6 x7 true) else (offcutref01_Add.j1 k x0 x1 x5 x6 x7 (decide (x7 ≤ (x1.size : Int))))
def offcutref01_Add.j1 : Nat → ByteArray → ByteArray → ByteArray → Int → Int → Bool → Option (ByteArray)
  | 0, _, _, _, _, _, _ => none
  | k + 1, x0, x1, x5, x6, x7, x18 => if x18 = true then ((offcutref01_at.f x0 x7).bind fun t392 => ((offcutref01_at.f x1 x7).bind fun t393 => ((offcutref01_sign.f (Int.tmod (wrap64 ((wrap64 (t392 + t393)) + x6)) 10)).bind fun t394 => (if t394.size + x5.size ≤ 9223372036854775807 then (offcutref01_Add.l0 k x0 x1 (t394 ++ x5) (wrap64 (Int.tdiv (wrap64 ((wrap64 (t392 + t393)) + x6)) 10)) (wrap64 (x7 + 1))) else (none))))) else ((offcutref01_cut.f k x5).bind fun t395 => (some t395))
end
def offcutref01_Add.f (k : Nat) (a0 : ByteArray) (a1 : ByteArray) : Option (ByteArray) := offcutref01_Add.l0 k a0 a1 (⟨#[]⟩ : ByteArray) 0 0
theorem offcutref01_Add.mono_l : ∀ k, (∀ y0 y1 y2 y3 y4, LeO (offcutref01_Add.l0 k y0 y1 y2 y3 y4) (offcutref01_Add.l0 (k + 1) y0 y1 y2 y3 y4)) ∧ (∀ y0 y1 y2 y3 y4 y5, LeO (offcutref01_Add.j1 k y0 y1 y2 y3 y4 y5) (offcutref01_Add.j1 (k + 1) y0 y1 y2 y3 y4 y5))
  | 0 => ⟨fun _ _ _ _ _ r h => by simp [offcutref01_Add.l0] at h, fun _ _ _ _ _ _ r h => by simp [offcutref01_Add.j1] at h⟩
  | k + 1 => by
    obtain ⟨ih0, ih1⟩ := offcutref01_Add.mono_l k
    refine ⟨?_, ?_⟩
    · intro y0 y1 y2 y3 y4
      unfold offcutref01_Add.l0
      repeat' first
      | (with_reducible exact ih0 _ _ _ _ _)
      | (with_reducible exact ih1 _ _ _ _ _ _)
      | (with_reducible exact offcutref01_cut.mono _ _)
      | (with_reducible exact LeO.refl _)
      | (with_reducible exact LeO.none _)
      | (with_reducible refine LeO.ite ?_ ?_)
      | (with_reducible refine LeO.bind ?_ (fun _ => ?_))
      | exact ih0 _ _ _ _ _
      | exact ih1 _ _ _ _ _ _
      | exact offcutref01_cut.mono _ _
      | exact LeO.none _
      | refine LeO.ite ?_ ?_
      | refine LeO.bind ?_ (fun _ => ?_)
    · intro y0 y1 y2 y3 y4 y5
      unfold offcutref01_Add.j1
      repeat' first
      | (with_reducible exact ih0 _ _ _ _ _)
      | (with_reducible exact ih1 _ _ _ _ _ _)
      | (with_reducible exact offcutref01_cut.mono _ _)
      | (with_reducible exact LeO.refl _)
      | (with_reducible exact LeO.none _)
      | (with_reducible refine LeO.ite ?_ ?_)
      | (with_reducible refine LeO.bind ?_ (fun _ => ?_))
      | exact ih0 _ _ _ _ _
      | exact ih1 _ _ _ _ _ _
      | exact offcutref01_cut.mono _ _
      | exact LeO.none _
      | refine LeO.ite ?_ ?_
      | refine LeO.bind ?_ (fun _ => ?_)
theorem offcutref01_Add.mono : ∀ a0 a1 k, LeO (offcutref01_Add.f k a0 a1) (offcutref01_Add.f (k + 1) a0 a1) := by
  intro a0 a1 k
  obtain ⟨ih0, ih1⟩ := offcutref01_Add.mono_l k
  unfold offcutref01_Add.f
  repeat' first
      | (with_reducible exact ih0 _ _ _ _ _)
      | (with_reducible exact ih1 _ _ _ _ _ _)
      | (with_reducible exact offcutref01_cut.mono _ _)
      | (with_reducible exact LeO.refl _)
      | (with_reducible exact LeO.none _)
      | (with_reducible refine LeO.ite ?_ ?_)
      | (with_reducible refine LeO.bind ?_ (fun _ => ?_))
      | exact ih0 _ _ _ _ _
      | exact ih1 _ _ _ _ _ _
      | exact offcutref01_cut.mono _ _
      | exact LeO.none _
      | refine LeO.ite ?_ ?_
      | refine LeO.bind ?_ (fun _ => ?_)
set_option maxHeartbeats 8000000 in
set_option maxRecDepth 100000 in
theorem offcutref01_Add.calls (k : Nat) (a0 : ByteArray) (a1 : ByteArray) (r : ByteArray) (w : World) (h : offcutref01_Add.f k a0 a1 = some r) :
    Calls Try.prog 74 #[.string a0, .string a1] w fun e w' => e = .returned (.string r) ∧ Drawn0 w w' := by
  have H : (offcutref01_Add.l0 k a0 a1 (⟨#[]⟩ : ByteArray) 0 0) = some r := h
  clear h
  have H' := Aside0.mk H
  clear H
  go_enter Try.func74, Try.ntmps74
  go_wp2
  go_loopg [5, 6, 7] k (fun kq v5 v6 v7 w' => ∃ (x5_1 : ByteArray) (x6_1 : Int) (x7_1 : Int), v5 = .string x5_1 ∧ v6 = .int .i64 x6_1 ∧ v7 = .int .i64 x7_1 ∧ Aside0 (offcutref01_Add.l0 kq a0 a1 x5_1 x6_1 x7_1 = some r) ∧ Aside0 (kq ≤ k) ∧ Drawn0 w w')
  case atStart => exact ⟨((⟨#[]⟩ : ByteArray)), (0), (0), (by first | rfl | (simp; done) | (simp [*]; done)), (by first | rfl | (simp; done) | (simp [*]; done)), (by first | rfl | (simp; done) | (simp [*]; done)), H', ⟨Nat.le_refl _⟩, by repeat (first | exact Drawn0.refl _ | apply Drawn0.step)⟩
  case round =>
    clear H'
    try clear p2
    obtain ⟨x5_1, x6_1, x7_1, rfl, rfl, rfl, HA, HK1, ⟨m1, rfl⟩⟩ := hrel
    cases gk with
    | zero => exact absurd HA.out (by simp [offcutref01_Add.l0])
    | succ k1 =>
      have H := HA.out
      clear HA
      simp only [offcutref01_Add.l0] at H
      have HC3 := Aside0.mk H
      clear H
      go_upto_region 4 with (fail)
      go_cut [18] (fun v18 wc => ∃ (kq : Nat) (x18_2 : Bool), v18 = .bool x18_2 ∧ Aside0 (offcutref01_Add.j1 kq a0 a1 x5_1 x6_1 x7_1 x18_2 = some r) ∧ Aside0 (kq ≤ k1) ∧ Drawn0 w wc)
      case first =>
        have H := HC3.out
        clear HC3
        by_cases c4 : x7_1 ≤ (a0.size : Int)
        · rw [if_pos c4] at H
          have c4b0 : decide (x7_1 ≤ (a0.size : Int)) = true := decide_eq_true c4
          clear c4
          (first | rw [c4b0] | (simp only [i64_w, i32_w]; rw [c4b0]) | skip)
          have H' := Aside0.mk H
          clear H
          go_wp2
          go_meet
          case rel => exact ⟨_, (true), (by first | rfl | (simp; done) | (simp [*]; done)), H', ⟨by have := HK1.out; first | omega | exact Nat.le_refl _⟩, by repeat (first | exact Drawn0.refl _ | apply Drawn0.step)⟩
        · rw [if_neg c4] at H
          have c4b0 : decide (x7_1 ≤ (a0.size : Int)) = false := decide_eq_false c4
          clear c4
          (first | rw [c4b0] | (simp only [i64_w, i32_w]; rw [c4b0]) | skip)
          have H' := Aside0.mk H
          clear H
          go_wp2
          go_meet
          case rel => exact ⟨_, (decide (x7_1 ≤ (a1.size : Int))), (by first | rfl | (simp; done) | (simp [*]; done)), H', ⟨by have := HK1.out; first | omega | exact Nat.le_refl _⟩, by repeat (first | exact Drawn0.refl _ | apply Drawn0.step)⟩
      case rest =>
        clear HC3
        try clear p2
        try clear c4
        try clear c4b0
        try clear p2
        obtain ⟨kq, x18_2, rfl, HA, HJ2, ⟨mc2, rfl⟩⟩ := hcut
        cases kq with
        | zero => exact absurd HA.out (by simp [offcutref01_Add.j1])
        | succ kj2 =>
          have H := HA.out
          clear HA
          simp only [offcutref01_Add.j1] at H
          by_cases c5 : x18_2 = true
          · subst c5
            have H1 : ((offcutref01_at.f a0 x7_1).bind fun t392 => ((offcutref01_at.f a1 x7_1).bind fun t393 => ((offcutref01_sign.f (Int.tmod (wrap64 ((wrap64 (t392 + t393)) + x6_1)) 10)).bind fun t394 => (if t394.size + x5_1.size ≤ 9223372036854775807 then (offcutref01_Add.l0 kj2 a0 a1 (t394 ++ x5_1) (wrap64 (Int.tdiv (wrap64 ((wrap64 (t392 + t393)) + x6_1)) 10)) (wrap64 (x7_1 + 1))) else (none))))) = some r := by rw [if_pos rfl] at H; exact H
            clear H
            have H := H1
            clear H1
            replace H := Option.bind_eq_some_iff.mp H
            obtain ⟨t392, A60, H⟩ := H
            replace H : ((offcutref01_at.f a1 x7_1).bind fun t393 => ((offcutref01_sign.f (Int.tmod (wrap64 ((wrap64 (t392 + t393)) + x6_1)) 10)).bind fun t394 => (if t394.size + x5_1.size ≤ 9223372036854775807 then (offcutref01_Add.l0 kj2 a0 a1 (t394 ++ x5_1) (wrap64 (Int.tdiv (wrap64 ((wrap64 (t392 + t393)) + x6_1)) 10)) (wrap64 (x7_1 + 1))) else (none)))) = some r := H
            have A6 := Aside0.mk A60
            clear A60
            replace H := Option.bind_eq_some_iff.mp H
            obtain ⟨t393, A70, H⟩ := H
            replace H : ((offcutref01_sign.f (Int.tmod (wrap64 ((wrap64 (t392 + t393)) + x6_1)) 10)).bind fun t394 => (if t394.size + x5_1.size ≤ 9223372036854775807 then (offcutref01_Add.l0 kj2 a0 a1 (t394 ++ x5_1) (wrap64 (Int.tdiv (wrap64 ((wrap64 (t392 + t393)) + x6_1)) 10)) (wrap64 (x7_1 + 1))) else (none))) = some r := H
            have A7 := Aside0.mk A70
            clear A70
            replace H := Option.bind_eq_some_iff.mp H
            obtain ⟨t394, A80, H⟩ := H
            replace H : (if t394.size + x5_1.size ≤ 9223372036854775807 then (offcutref01_Add.l0 kj2 a0 a1 (t394 ++ x5_1) (wrap64 (Int.tdiv (wrap64 ((wrap64 (t392 + t393)) + x6_1)) 10)) (wrap64 (x7_1 + 1))) else (none)) = some r := H
            have A8 := Aside0.mk A80
            clear A80
            by_cases c9 : t394.size + x5_1.size ≤ 9223372036854775807
            · rw [if_pos c9] at H
              have c9b0 := eq_true c9
              have c9b1 : decide (t394.size + x5_1.size ≤ 9223372036854775807) = true := decide_eq_true c9
              try have c9b2 : (9223372036854775807 < t394.size + x5_1.size) = False := eq_false (Nat.not_lt.2 c9)
              have H' := Aside0.mk H
              clear H
              go_wp2_with (first | ((with_reducible refine gate_callee (f := 101) rfl ?_); refine goesL_ (some 23) rfl rfl Try.func101 (by kernel_rfl) rfl #[.string a0, .int .i64 x7_1] rfl (by (try simp only [List.map_toArray, List.map_cons, List.map_nil]); first | done | rfl | (simp only [List.length_drop, List.length_take]; rfl)) ?_; (with_reducible refine (offcutref01_at.calls a0 x7_1 t392 _ A6.out).mono ?_); rintro e w' ⟨rfl, ⟨nd, rfl⟩⟩; refine ⟨_, rfl, ?_⟩) | ((with_reducible refine gate_callee (f := 101) rfl ?_); refine goesL_ (some 26) rfl rfl Try.func101 (by kernel_rfl) rfl #[.string a1, .int .i64 x7_1] rfl (by (try simp only [List.map_toArray, List.map_cons, List.map_nil]); first | done | rfl | (simp only [List.length_drop, List.length_take]; rfl)) ?_; (with_reducible refine (offcutref01_at.calls a1 x7_1 t393 _ A7.out).mono ?_); rintro e w' ⟨rfl, ⟨nd, rfl⟩⟩; refine ⟨_, rfl, ?_⟩) | ((with_reducible refine gate_callee (f := 91) rfl ?_); refine goesL_ (some 32) rfl rfl Try.func91 (by kernel_rfl) rfl #[.int .i64 (Int.tmod (wrap64 ((wrap64 (t392 + t393)) + x6_1)) 10)] rfl (by (try simp only [List.map_toArray, List.map_cons, List.map_nil]); first | done | rfl | (simp only [List.length_drop, List.length_take]; rfl)) ?_; (with_reducible refine (offcutref01_sign.calls (Int.tmod (wrap64 ((wrap64 (t392 + t393)) + x6_1)) 10) t394 _ A8.out).mono ?_); rintro e w' ⟨rfl, ⟨nd, rfl⟩⟩; refine ⟨_, rfl, ?_⟩))
              go_roundg kj2
              case measure => have := HK1.out; have := HJ2.out; omega
              case rel => exact ⟨(t394 ++ x5_1), (wrap64 (Int.tdiv (wrap64 ((wrap64 (t392 + t393)) + x6_1)) 10)), (wrap64 (x7_1 + 1)), (by first | rfl | (simp; done) | (simp [*]; done)), (by first | rfl | (simp; done) | (simp [*]; done)), (by first | rfl | (simp; done) | (simp [*]; done)), H', ⟨by have := HK1.out; have := HJ2.out; omega⟩, by repeat (first | exact Drawn0.refl _ | apply Drawn0.step)⟩
            · rw [if_neg c9] at H
              exact absurd H (by simp)
          · replace c5 := Bool.eq_false_iff.mpr c5
            subst c5
            have H1 : ((offcutref01_cut.f kj2 x5_1).bind fun t395 => (some t395)) = some r := by rw [if_neg (show ¬ (false = true) by decide)] at H; exact H
            clear H
            have H := H1
            clear H1
            replace H := Option.bind_eq_some_iff.mp H
            obtain ⟨t395, A100, H⟩ := H
            replace H : (some t395) = some r := H
            have A10 := Aside0.mk A100
            clear A100
            obtain rfl := Option.some.inj H
            go_wp2_with (first | ((with_reducible refine gate_callee (f := 92) rfl ?_); refine goesL_ (some 38) rfl rfl Try.func92 (by kernel_rfl) rfl #[.string x5_1] rfl (by (try simp only [List.map_toArray, List.map_cons, List.map_nil]); first | done | rfl | (simp only [List.length_drop, List.length_take]; rfl)) ?_; (with_reducible refine (offcutref01_cut.calls kj2 x5_1 t395 _ A10.out).mono ?_); rintro e w' ⟨rfl, ⟨nd, rfl⟩⟩; refine ⟨_, rfl, ?_⟩))
            go_ret
            exact ⟨by first | rfl | (simp; done) | (simp [*]; done), by repeat (first | exact Drawn0.refl _ | apply Drawn0.step)⟩

theorem offcutref01_Add.l0_eq (k : Nat) {a b : List Nat} (x5 : ByteArray) (x6 : Int) (j : Nat) : offcutref01_Add.l0 (k + 1) (Dec.tx a) (Dec.tx b) x5 x6 (j : Int) = offcutref01_Add.j1 k (Dec.tx a) (Dec.tx b) x5 x6 (j : Int) (decide (j ≤ a.length ∨ j ≤ b.length)) := by
  rw [offcutref01_Add.l0, Dec.tx_size, Dec.tx_size]
  by_cases h : j ≤ a.length
  · rw [if_pos (by omega), decide_eq_true (.inl h)]
  · rw [if_neg (by omega)]
    rw [show decide ((j : Int) ≤ (b.length : Int)) = decide (j ≤ a.length ∨ j ≤ b.length) from decide_eq_decide.2 (by omega)]
theorem offcutref01_Add.ev_l {a b : List Nat} (ha : Dec.Ds a) (hb : Dec.Ds b) (la : a.length < 1000000000) (lb : b.length < 1000000000) (d : Nat) : ∀ (out : List Nat) (c : Nat), out.length + d = max a.length b.length + 1 → Dec.Ds out → c ≤ 1 →
    Dec.dv (a.take out.length) + Dec.dv (b.take out.length) = Dec.dv out + 10 ^ out.length * c → Ev (fun k => offcutref01_Add.l0 k (Dec.tx a) (Dec.tx b) (Dec.tx out) (c : Int) (out.length : Int)) (Dec.dec (Dec.dv a + Dec.dv b)) := by
  induction d with
  | zero =>
    intro out c hd ho hc hv
    have h1 := Dec.dv_lt ha
    have h2 := Dec.dv_lt hb
    obtain ⟨m, hm⟩ : ∃ m, out.length = m + 1 := ⟨max a.length b.length, by omega⟩
    have h3 : 10 ^ a.length ≤ 10 ^ m := Nat.pow_le_pow_right (by omega) (by omega)
    have h4 : 10 ^ b.length ≤ 10 ^ m := Nat.pow_le_pow_right (by omega) (by omega)
    rw [List.take_of_length_le (by omega), List.take_of_length_le (by omega), hm, Nat.pow_succ] at hv
    have hc0 : c = 0 := by
      rcases Nat.eq_zero_or_pos c with h | h
      · exact h
      · obtain rfl : c = 1 := by omega
        omega
    subst hc0
    have hvv : Dec.dv out = Dec.dv a + Dec.dv b := by omega
    refine Ev.step (f := fun k => offcutref01_Add.j1 k (Dec.tx a) (Dec.tx b) (Dec.tx out) ((0 : Nat) : Int) (out.length : Int) false) (fun k => ?_) ?_
    · rw [offcutref01_Add.l0_eq, decide_eq_false (by omega)]
    · refine Ev.step (f := fun k => (offcutref01_cut.f k (Dec.tx out)).bind fun t => some t) (fun k => ?_) ?_
      · rw [offcutref01_Add.j1, if_neg (by simp)]
      · rw [← hvv]
        exact Ev.bind (offcutref01_cut.ev ho) (Ev.now _)
  | succ d ih =>
    intro out c hd ho hc hv
    have h1 := ha.getD out.length
    have h2 := hb.getD out.length
    obtain ⟨p, hp⟩ : ∃ p, p = a.getD out.length 0 := ⟨_, rfl⟩
    obtain ⟨q, hq⟩ : ∃ q, q = b.getD out.length 0 := ⟨_, rfl⟩
    refine Ev.step (f := fun k => offcutref01_Add.j1 k (Dec.tx a) (Dec.tx b) (Dec.tx out) (c : Int) (out.length : Int) true) (fun k => ?_) ?_
    · rw [offcutref01_Add.l0_eq, decide_eq_true (by omega)]
    · refine Ev.step (f := fun k => offcutref01_Add.l0 k (Dec.tx a) (Dec.tx b) (Dec.tx (out ++ [(p + q + c) % 10])) (((p + q + c) / 10 : Nat) : Int) ((out.length + 1 : Nat) : Int)) (fun k => ?_) ?_
      · rw [offcutref01_Add.j1, if_pos rfl, offcutref01_at.sem ha (by omega), offcutref01_at.sem hb (by omega), ← hp, ← hq]
        rw [Option.bind_some, Option.bind_some, Dec.w64a _ _ (by omega), Dec.w64a _ _ (by omega), Dec.tmod10, Dec.tdiv10, offcutref01_sign.sem _ (Nat.mod_lt _ (by omega)), Option.bind_some, Dec.tx_append, Dec.tx_size, Dec.tx_size, if_pos (by rw [List.length_singleton]; omega), Dec.w64n _ (by omega), Dec.w64s _ (by omega)]
      · have := ih (out ++ [(p + q + c) % 10]) ((p + q + c) / 10) (by rw [List.length_append, List.length_singleton]; omega) (ho.snoc (Nat.mod_lt _ (by omega))) (by omega) (by
          rw [List.length_append, List.length_singleton, Dec.dv_take_succ, Dec.dv_take_succ, ← hp, ← hq, Dec.dv_snoc, Nat.pow_succ]
          have h3 : 10 ^ out.length * (p + q + c) = 10 ^ out.length * ((p + q + c) % 10 + 10 * ((p + q + c) / 10)) := by congr 1; omega
          rw [Nat.mul_add, Nat.mul_add, Nat.mul_add, ← Nat.mul_assoc] at h3
          omega)
        rw [List.length_append, List.length_singleton] at this
        exact this
theorem offcutref01_Add.ev {a b : List Nat} (ha : Dec.Ds a) (hb : Dec.Ds b) (la : a.length < 1000000000) (lb : b.length < 1000000000) : Ev (fun k => offcutref01_Add.f k (Dec.tx a) (Dec.tx b)) (Dec.dec (Dec.dv a + Dec.dv b)) :=
  offcutref01_Add.ev_l ha hb la lb (max a.length b.length + 1) [] 0 (by rw [List.length_nil]; omega) Dec.Ds.nil (by omega) (by rw [List.length_nil, List.take_zero, List.take_zero]; rfl)

end Go.Proofs.Ytjpkljkkcbaohaa.PR

end
section
namespace Go.Proofs.Ytjpkljkkcbaohaa.PR
open Go.RowKit Go.Proofs.YtjpkljkkcbaohaaW.PrintWords Go.Proofs.YtjpkljkkcbaohaaW.PrintLast Go.Proofs.YtjpkljkkcbaohaaW.PrintMore
attribute [local go_sem] max2_int min2_int max_two min_two max_three min_three max_four min_four   -- for this text's walks alone
set_option linter.unusedVariables false
set_option linter.unusedSimpArgs false

/-! ### offcutref01_Mul: function 79 -/
mutual
def offcutref01_Mul.l0 : Nat → ByteArray → ByteArray → List Int → Int → Option (ByteArray)
  | 0, _, _, _, _ => none
  | k + 1, x0, x1, x5, x6 => if x6 < (x0.size : Int) then (offcutref01_Mul.l1 k x0 x1 x5 x6 0) else (offcutref01_Mul.l2 k x5 (⟨#[]⟩ : ByteArray) 0 0)
def offcutref01_Mul.l1 : Nat → ByteArray → ByteArray → List Int → Int → Int → Option (ByteArray)
  | 0, _, _, _, _, _ => none
  | k + 1, x0, x1, x5, x6, x7 => if x7 < (x1.size : Int) then (if 0 ≤ (wrap64 (x6 + x7)) then (if (wrap64 (x6 + x7)) < (x5.length : Int) then ((offcutref01_at.f x0 x6).bind fun t400 => ((offcutref01_at.f x1 x7).bind fun t401 => (offcutref01_Mul.l1 k x0 x1 (x5.set ((wrap64 (x6 + x7)) : Int).toNat (wrap64 ((rd x5 (wrap64 (x6 + x7))) + (wrap64 (t400 * t401))))) x6 (wrap64 (x7 + 1))))) else (none)) else (none)) else (offcutref01_Mul.l0 k x0 x1 x5 (wrap64 (x6 + 1)))
def offcutref01_Mul.l2 : Nat → List Int → ByteArray → Int → Int → Option (ByteArray)
  | 0, _, _, _, _ => none
  | k + 1, x5, x8, x9, x10 => if x10 < (x5.length : Int) then (if 0 ≤ x10 then ((offcutref01_sign.f (Int.tmod (wrap64 ((rd x5 x10) + x9)) 10)).bind fun t404 => (if t404.size + x8.size ≤ 9223372036854775807 then (offcutref01_Mul.l2 k x5 (t404 ++ x8) (wrap64 (Int.tdiv (wrap64 ((rd x5 x10) + x9)) 10)) (wrap64 (x10 + 1))) else (none))) else (none)) else ((offcutref01_cut.f k x8).bind fun t405 => (some t405))
end
def offcutref01_Mul.f (k : Nat) (a0 : ByteArray) (a1 : ByteArray) : Option (ByteArray) := if 0 ≤ (wrap64 ((wrap64 ((a0.size : Int) + (a1.size : Int))) + 1)) then (if (wrap64 ((wrap64 ((a0.size : Int) + (a1.size : Int))) + 1) : Int).toNat ≤ 35184372088832 then (offcutref01_Mul.l0 k a0 a1 (List.replicate (wrap64 ((wrap64 ((a0.size : Int) + (a1.size : Int))) + 1) : Int).toNat 0) 0) else (none)) else (none)
theorem offcutref01_Mul.mono_l : ∀ k, (∀ y0 y1 y2 y3, LeO (offcutref01_Mul.l0 k y0 y1 y2 y3) (offcutref01_Mul.l0 (k + 1) y0 y1 y2 y3)) ∧ (∀ y0 y1 y2 y3 y4, LeO (offcutref01_Mul.l1 k y0 y1 y2 y3 y4) (offcutref01_Mul.l1 (k + 1) y0 y1 y2 y3 y4)) ∧ (∀ y0 y1 y2 y3, LeO (offcutref01_Mul.l2 k y0 y1 y2 y3) (offcutref01_Mul.l2 (k + 1) y0 y1 y2 y3))
  | 0 => ⟨fun _ _ _ _ r h => by simp [offcutref01_Mul.l0] at h, fun _ _ _ _ _ r h => by simp [offcutref01_Mul.l1] at h, fun _ _ _ _ r h => by simp [offcutref01_Mul.l2] at h⟩
  | k + 1 => by
    obtain ⟨ih0, ih1, ih2⟩ := offcutref01_Mul.mono_l k
    refine ⟨?_, ?_, ?_⟩
    · intro y0 y1 y2 y3
      unfold offcutref01_Mul.l0
      repeat' first
      | (with_reducible exact ih0 _ _ _ _)
      | (with_reducible exact ih1 _ _ _ _ _)
      | (with_reducible exact ih2 _ _ _ _)
      | (with_reducible exact offcutref01_cut.mono _ _)
      | (with_reducible exact LeO.refl _)
      | (with_reducible exact LeO.none _)
      | (with_reducible refine LeO.ite ?_ ?_)
      | (with_reducible refine LeO.bind ?_ (fun _ => ?_))
      | exact ih0 _ _ _ _
      | exact ih1 _ _ _ _ _
      | exact ih2 _ _ _ _
      | exact offcutref01_cut.mono _ _
      | exact LeO.none _
      | refine LeO.ite ?_ ?_
      | refine LeO.bind ?_ (fun _ => ?_)
    · intro y0 y1 y2 y3 y4
      unfold offcutref01_Mul.l1
      repeat' first
      | (with_reducible exact ih0 _ _ _ _)
      | (with_reducible exact ih1 _ _ _ _ _)
      | (with_reducible exact ih2 _ _ _ _)
      | (with_reducible exact offcutref01_cut.mono _ _)
      | (with_reducible exact LeO.refl _)
      | (with_reducible exact LeO.none _)
      | (with_reducible refine LeO.ite ?_ ?_)
      | (with_reducible refine LeO.bind ?_ (fun _ => ?_))
      | exact ih0 _ _ _ _
      | exact ih1 _ _ _ _ _
      | exact ih2 _ _ _ _
      | exact offcutref01_cut.mono _ _
      | exact LeO.none _
      | refine LeO.ite ?_ ?_
      | refine LeO.bind ?_ (fun _ => ?_)
    · intro y0 y1 y2 y3
      unfold offcutref01_Mul.l2
      repeat' first
      | (with_reducible exact ih0 _ _ _ _)
      | (with_reducible exact ih1 _ _ _ _ _)
      | (with_reducible exact ih2 _ _ _ _)
      | (with_reducible exact offcutref01_cut.mono _ _)
      | (with_reducible exact LeO.refl _)
      | (with_reducible exact LeO.none _)
      | (with_reducible refine LeO.ite ?_ ?_)
      | (with_reducible refine LeO.bind ?_ (fun _ => ?_))
      | exact ih0 _ _ _ _
      | exact ih1 _ _ _ _ _
      | exact ih2 _ _ _ _
      | exact offcutref01_cut.mono _ _
      | exact LeO.none _
      | refine LeO.ite ?_ ?_
      | refine LeO.bind ?_ (fun _ => ?_)
theorem offcutref01_Mul.mono : ∀ a0 a1 k, LeO (offcutref01_Mul.f k a0 a1) (offcutref01_Mul.f (k + 1) a0 a1) := by
  intro a0 a1 k
  obtain ⟨ih0, ih1, ih2⟩ := offcutref01_Mul.mono_l k
  unfold offcutref01_Mul.f
  repeat' first
      | (with_reducible exact ih0 _ _ _ _)
      | (with_reducible exact ih1 _ _ _ _ _)
      | (with_reducible exact ih2 _ _ _ _)
      | (with_reducible exact offcutref01_cut.mono _ _)
      | (with_reducible exact LeO.refl _)
      | (with_reducible exact LeO.none _)
      | (with_reducible refine LeO.ite ?_ ?_)
      | (with_reducible refine LeO.bind ?_ (fun _ => ?_))
      | exact ih0 _ _ _ _
      | exact ih1 _ _ _ _ _
      | exact ih2 _ _ _ _
      | exact offcutref01_cut.mono _ _
      | exact LeO.none _
      | refine LeO.ite ?_ ?_
      | refine LeO.bind ?_ (fun _ => ?_)
def offcutref01_Mul.T8 : Bool × List (List Nat × List Nat) := (true, [([], []), ([], []), ([], []), ([1, 2], [1, 2]), ([], []), ([], []), ([], []), ([5, 6], [5, 6]), ([4, 7], [4, 7]), ([8], [8]), ([], []), ([], []), ([10, 11], [10, 11]), ([], []), ([], []), ([13, 14, 12], [13, 14]), ([12, 15], [12, 15]), ([9, 16], [9, 16]), ([0, 3, 0, 1, 2, 3, 4, 5, 6, 7, 8, 9, 10, 11, 12, 13, 14, 15, 16, 17], [0, 3]), ([18, 17, 15, 0, 1, 2, 3, 4, 5, 6, 7, 8, 9, 10, 11, 12, 13, 14, 15, 16, 17], [17, 18])])
def offcutref01_Mul.B8 : List Nat := [0, 0, 0, 6, 0, 0, 0, 96, 240, 496, 0, 0, 3072, 0, 0, 31744, 64512, 131056, 262143, 524287]
theorem offcutref01_Mul.tab8 : rtab .any (opsOf Try.f79 8) = offcutref01_Mul.T8 := by kernel_rfl
theorem offcutref01_Mul.bits8 : waitsOk offcutref01_Mul.T8.2 offcutref01_Mul.B8 = true := by kernel_rfl
set_option maxHeartbeats 8000000 in
set_option maxRecDepth 100000 in
theorem offcutref01_Mul.calls (k : Nat) (a0 : ByteArray) (a1 : ByteArray) (r : ByteArray) (w : World) (h : offcutref01_Mul.f k a0 a1 = some r) :
    Calls Try.prog 79 #[.string a0, .string a1] w fun e w' => e = .returned (.string r) ∧ Below w.heap.size w w' := by
  have HB := Aside0.mk (Below.refl w.heap.size w)
  have H : (if 0 ≤ (wrap64 ((wrap64 ((a0.size : Int) + (a1.size : Int))) + 1)) then (if (wrap64 ((wrap64 ((a0.size : Int) + (a1.size : Int))) + 1) : Int).toNat ≤ 35184372088832 then (offcutref01_Mul.l0 k a0 a1 (List.replicate (wrap64 ((wrap64 ((a0.size : Int) + (a1.size : Int))) + 1) : Int).toNat 0) 0) else (none)) else (none)) = some r := h
  clear h
  obtain ⟨ji3, hji3⟩ : ∃ j_ : Int, (wrap64 ((wrap64 ((a0.size : Int) + (a1.size : Int))) + 1)) = j_ := ⟨_, rfl⟩
  replace H : (if 0 ≤ (ji3) then (if (ji3 : Int).toNat ≤ 35184372088832 then (offcutref01_Mul.l0 k a0 a1 (List.replicate (ji3 : Int).toNat 0) 0) else (none)) else (none)) = some r := by first | (rw [hji3] at H; exact H) | (simp only [hji3] at H ⊢; exact H)
  have hji3w : (IntKind.i64.wrap ((wrap64 ((a0.size : Int) + (a1.size : Int))) + 1)) = ji3 := (i64_w _).trans hji3
  by_cases c4 : 0 ≤ (ji3)
  · rw [if_pos c4] at H
    have c4b0 := eq_true c4
    have c4b1 : decide (0 ≤ (ji3)) = true := decide_eq_true c4
    clear c4
    by_cases c5 : (ji3 : Int).toNat ≤ 35184372088832
    · rw [if_pos c5] at H
      have c5b0 := eq_true c5
      have c5b1 : decide ((ji3 : Int).toNat ≤ 35184372088832) = true := decide_eq_true c5
      clear c5
      obtain ⟨y396, hy396⟩ : ∃ y_ : List Int, y_ = (List.replicate (ji3 : Int).toNat 0) := ⟨_, rfl⟩
      replace H : (offcutref01_Mul.l0 k a0 a1 y396 0) = some r := by first | (rw [hy396]; with_reducible exact H) | (have H2_ := (Option.bind_some _ _).symm.trans H; rw [hy396]; with_reducible exact H2_) | (have H2_ := (Option.bind_some _ _).symm.trans H; with_reducible exact H2_) | with_reducible exact H | (rw [hy396]; exact H) | exact H
      have Ny396 := Aside0.mk hy396
      clear hy396
      have H' := Aside0.mk H
      clear H
      go_enter Try.func79, Try.ntmps79
      go_wp2_with (first | ((with_reducible refine gate_dst (N := 18) rfl ?_); refine Kd.R_make (Kd.int .i64) _ 3 rfl (N := 18) rfl 116 _ _ rfl ji3 rfl rfl Try.underlying116 (.int .i64 0) 8 info3 rfl (by decide) (by omega) 0 (ok := fun _ => True) (okp := fun _ => True) rfl (fun _ hk => hk) trivial (of_decide_eq_true (by first | (with_reducible assumption) | assumption)) (Nat.le_trans (Nat.mul_le_mul_right _ (of_decide_eq_true (by first | (with_reducible assumption) | assumption) : ji3.toNat ≤ 35184372088832)) (by omega)) (Below.refl _ _) (Nat.le_refl _) ?_; intro v397 w6 ho7 hb hg_ hnew_; clear hg_ hnew_; (first | rw [← Ny396.out] at ho7 | (simp only [Int.reduceToNat] at ho7; rw [← Ny396.out] at ho7)); have n0_ := Aside0.mk (Kd.R_lower ho7 (below_size (by repeat (first | (with_reducible first | exact HB.out | apply below_alloc | apply pw_below_drewN | apply below_drew1) | exact HB.out)))); have n1_ := Aside0.mk (below_step (by repeat (first | (with_reducible first | exact HB.out | apply below_alloc | apply pw_below_drewN | apply below_drew1) | exact HB.out)) hb); clear HB; have HO398 := n0_; have HB := n1_; clear n0_ n1_; clear hb ho7))
      go_loopg [6] k (fun kq v6 w' => ∃ (x5_1 : List Int) (x6_1 : Int), v6 = .int .i64 x6_1 ∧ Aside0 (offcutref01_Mul.l0 kq a0 a1 x5_1 x6_1 = some r) ∧ Aside0 (kq ≤ k) ∧ Aside0 (Kd.R (Kd.int .i64) 3 w' w.heap.size (fun _ => True) v397 x5_1) ∧ Aside0 (Below w.heap.size w w'))
      case atStart => exact ⟨(y396), (0), (by first | rfl | (simp; done) | (simp [*]; done)), H', ⟨Nat.le_refl _⟩, ⟨by (with_reducible repeat (first | apply Kd.R_alloc | apply Kd.R_drewN | apply Kd.R_drew)); exact HO398.out⟩, ⟨by repeat (first | (with_reducible first | exact HB.out | apply below_alloc | apply pw_below_drewN | apply below_drew1) | exact HB.out)⟩⟩
      case round =>
        clear H'
        try clear p2
        try clear c4
        try clear c4b0
        try clear c4b1
        try clear c5
        try clear c5b0
        try clear c5b1
        try clear p6
        try clear c7
        obtain ⟨x5_1, x6_1, rfl, HA, HK1, HO_5, HB⟩ := hrel
        cases gk with
        | zero => exact absurd HA.out (by simp [offcutref01_Mul.l0])
        | succ k1 =>
          have H := HA.out
          clear HA
          simp only [offcutref01_Mul.l0] at H
          by_cases c8 : x6_1 < (a0.size : Int)
          · rw [if_pos c8] at H
            have c8b0 : decide (x6_1 < (a0.size : Int)) = true := decide_eq_true c8
            clear c8
            have H' := Aside0.mk H
            clear H
            go_wp2
            go_loopg [7] k1 (fun kq v7 w' => ∃ (x5_2 : List Int) (x7_2 : Int), v7 = .int .i64 x7_2 ∧ Aside0 (offcutref01_Mul.l1 kq a0 a1 x5_2 x6_1 x7_2 = some r) ∧ Aside0 (kq ≤ k1) ∧ Aside0 (Kd.R (Kd.int .i64) 3 w' w.heap.size (fun _ => True) v397 x5_2) ∧ Aside0 (Below w.heap.size w w'))
            case atStart => exact ⟨(x5_1), (0), (by first | rfl | (simp; done) | (simp [*]; done)), H', ⟨Nat.le_refl _⟩, ⟨by (with_reducible repeat (first | apply Kd.R_alloc | apply Kd.R_drewN | apply Kd.R_drew)); exact HO_5.out⟩, ⟨by repeat (first | (with_reducible first | exact HB.out | apply below_alloc | apply pw_below_drewN | apply below_drew1) | exact HB.out)⟩⟩
            case round =>
              clear H'
              try clear p2
              try clear c4
              try clear c4b0
              try clear c4b1
              try clear c5
              try clear c5b0
              try clear c5b1
              try clear p6
              try clear c7
              try clear c8
              try clear c8b0
              try clear p2
              try clear p6
              obtain ⟨x5_2, x7_2, rfl, HA, HK2, HO_5, HB⟩ := hrel
              cases gk with
              | zero => exact absurd HA.out (by simp [offcutref01_Mul.l1])
              | succ k2 =>
                have H := HA.out
                clear HA
                simp only [offcutref01_Mul.l1] at H
                by_cases c9 : x7_2 < (a1.size : Int)
                · rw [if_pos c9] at H
                  have c9b0 : decide (x7_2 < (a1.size : Int)) = true := decide_eq_true c9
                  clear c9
                  obtain ⟨ji10, hji10⟩ : ∃ j_ : Int, (wrap64 (x6_1 + x7_2)) = j_ := ⟨_, rfl⟩
                  replace H : (if 0 ≤ (ji10) then (if (ji10) < (x5_2.length : Int) then ((offcutref01_at.f a0 x6_1).bind fun t400 => ((offcutref01_at.f a1 x7_2).bind fun t401 => (offcutref01_Mul.l1 k2 a0 a1 (x5_2.set ((ji10) : Int).toNat (wrap64 ((rd x5_2 (ji10)) + (wrap64 (t400 * t401))))) x6_1 (wrap64 (x7_2 + 1))))) else (none)) else (none)) = some r := by first | (rw [hji10] at H; exact H) | (simp only [hji10] at H ⊢; exact H)
                  have hji10w : (IntKind.i64.wrap (x6_1 + x7_2)) = ji10 := (i64_w _).trans hji10
                  by_cases c11 : 0 ≤ (ji10)
                  · rw [if_pos c11] at H
                    have c11b0 : decide (0 ≤ (ji10)) = true := decide_eq_true c11
                    clear c11
                    by_cases c12 : (ji10) < (x5_2.length : Int)
                    · rw [if_pos c12] at H
                      have c12b0 : decide ((ji10) < (x5_2.length : Int)) = true := decide_eq_true c12
                      clear c12
                      replace H := Option.bind_eq_some_iff.mp H
                      obtain ⟨t400, A130, H⟩ := H
                      replace H : ((offcutref01_at.f a1 x7_2).bind fun t401 => (offcutref01_Mul.l1 k2 a0 a1 (x5_2.set ((ji10) : Int).toNat (wrap64 ((rd x5_2 (ji10)) + (wrap64 (t400 * t401))))) x6_1 (wrap64 (x7_2 + 1)))) = some r := H
                      have A13 := Aside0.mk A130
                      clear A130
                      replace H := Option.bind_eq_some_iff.mp H
                      obtain ⟨t401, A140, H⟩ := H
                      replace H : (offcutref01_Mul.l1 k2 a0 a1 (x5_2.set ((ji10) : Int).toNat (wrap64 ((rd x5_2 (ji10)) + (wrap64 (t400 * t401))))) x6_1 (wrap64 (x7_2 + 1))) = some r := H
                      have A14 := Aside0.mk A140
                      clear A140
                      obtain ⟨y402, hy402⟩ : ∃ y_ : List Int, y_ = (x5_2.set ((ji10) : Int).toNat (wrap64 ((rd x5_2 (ji10)) + (wrap64 (t400 * t401))))) := ⟨_, rfl⟩
                      replace H : (offcutref01_Mul.l1 k2 a0 a1 y402 x6_1 (wrap64 (x7_2 + 1))) = some r := by first | (rw [hy402]; with_reducible exact H) | (have H2_ := (Option.bind_some _ _).symm.trans H; rw [hy402]; with_reducible exact H2_) | (have H2_ := (Option.bind_some _ _).symm.trans H; with_reducible exact H2_) | with_reducible exact H | (rw [hy402]; exact H) | exact H
                      have Ny402 := Aside0.mk hy402
                      clear hy402
                      have H' := Aside0.mk H
                      clear H
                      try go_wp2
                      have n0_ := Aside0.mk (Kd.R_drew HO_5.out)
                      have n1_ := Aside0.mk (below_drew1 HB.out)
                      clear HO_5
                      clear HB
                      have HO_5 := n0_
                      have HB := n1_
                      clear n0_ n1_
                      obtain ⟨Ao17, co17, eo17⟩ := Kd.R_slice HO_5.out
                      (first | subst eo17 | (injection eo17 with f1_ f2_ f3_; have f4_ := f1_.symm; have f5_ := f3_.symm; clear f1_ f2_ f3_; subst f4_; subst f5_))
                      have p399 : 0 ≤ ((ji10) : Int) := of_decide_eq_true (by first | (with_reducible assumption) | assumption)
                      have q399 : (ji10) < (x5_2.length : Int) := of_decide_eq_true (by first | (with_reducible assumption) | assumption)
                      obtain ⟨ad399, e399, hx399_0⟩ := Kd.at_int (Kd.R_reads' HO_5.out).2.2 (ji10) p399 q399
                      cases e399
                      replace p399 := eq_true p399
                      replace q399 := eq_true q399
                      refine start_ (n := 20) (S := fun w' => w'.cell? (ad399.add ((ji10)).toNat) = some (.int .i64 (rd x5_2 (ji10)))) (ds := [19]) #[false, false, false, false, false, false, false, false, false, false, false, false, false, false, false, false, false, false, false, false] (by kernel_rfl) rfl rfl (hx399_0) (fun hHeld => ?_); refine with_tabW offcutref01_Mul.tab8 offcutref01_Mul.bits8 (fun HT_ HW_ => ?_)
                      generalize wr.drew = w16 at HO_5 HB hx399_0 hHeld ⊢
                      refine pure_ (i := 0) (N := some 31) (v := ?_) (a' := ?_) #[true, false, false, false, false, false, false, false, false, false, false, false, false, false, false, false, false, false, false, false] rfl rfl (any_of HT_.out (by kernel_rfl)) (fun _ _ _ h => h) (Or.inl ⟨by rfl, ?_⟩) ?_ ?_
                      rotate_left
                      · intro w'
                        go_simp
                        with_reducible rfl
                      rotate_left
                      · simp only [Act.put, List.setIfInBounds_toArray, List.set_cons_zero, List.set_cons_succ, i64_w, i32_w]
                        rfl
                      refine pure_ (i := 1) (N := some 32) (v := ?_) (a' := ?_) #[true, true, false, false, false, false, false, false, false, false, false, false, false, false, false, false, false, false, false, false] rfl rfl (any_of HT_.out (by kernel_rfl)) (fun _ _ _ h => h) (Or.inl ⟨by rfl, ?_⟩) ?_ ?_
                      rotate_left
                      · intro w'
                        go_simp
                        with_reducible rfl
                      rotate_left
                      · simp only [Act.put, List.setIfInBounds_toArray, List.set_cons_zero, List.set_cons_succ, i64_w, i32_w]
                        rfl
                      refine pure_ (i := 2) (N := some 33) (v := ?_) (a' := ?_) #[true, true, true, false, false, false, false, false, false, false, false, false, false, false, false, false, false, false, false, false] rfl rfl (any_of HT_.out (by kernel_rfl)) (fun _ _ _ h => h) (Or.inl ⟨by rfl, ?_⟩) ?_ ?_
                      rotate_left
                      · intro w'
                        go_simp
                        with_reducible rfl
                      rotate_left
                      · simp only [Act.put, List.setIfInBounds_toArray, List.set_cons_zero, List.set_cons_succ, i64_w, i32_w]
                        rfl
                      refine pure_ (i := 3) (N := some 34) (v := ?_) (a' := ?_) #[true, true, true, true, false, false, false, false, false, false, false, false, false, false, false, false, false, false, false, false] rfl rfl (any_of HT_.out (by kernel_rfl)) (fun _ _ _ h => h) (Or.inl ⟨by rfl, ?_⟩) ?_ ?_
                      rotate_left
                      · intro w'
                        go_simp
                        with_reducible rfl
                      rotate_left
                      · simp only [Act.put, List.setIfInBounds_toArray, List.set_cons_zero, List.set_cons_succ, i64_w, i32_w]
                        rfl
                      refine pure_ (i := 4) (N := some 35) (v := ?_) (a' := ?_) #[true, true, true, true, true, false, false, false, false, false, false, false, false, false, false, false, false, false, false, false] rfl rfl (any_of HT_.out (by kernel_rfl)) (fun _ _ _ h => h) (Or.inl ⟨by rfl, ?_⟩) ?_ ?_
                      rotate_left
                      · intro w'
                        go_simp
                        with_reducible rfl
                      rotate_left
                      · simp only [Act.put, List.setIfInBounds_toArray, List.set_cons_zero, List.set_cons_succ, i64_w, i32_w]
                        rfl
                      refine pure_ (i := 5) (N := some 36) (v := ?_) (a' := ?_) #[true, true, true, true, true, true, false, false, false, false, false, false, false, false, false, false, false, false, false, false] rfl rfl (any_of HT_.out (by kernel_rfl)) (fun _ _ _ h => h) (Or.inl ⟨by rfl, ?_⟩) ?_ ?_
                      rotate_left
                      · intro w'
                        go_simp
                        with_reducible rfl
                      rotate_left
                      · simp only [Act.put, List.setIfInBounds_toArray, List.set_cons_zero, List.set_cons_succ, i64_w, i32_w]
                        rfl
                      refine pure_ (i := 6) (N := some 37) (v := ?_) (a' := ?_) #[true, true, true, true, true, true, true, false, false, false, false, false, false, false, false, false, false, false, false, false] rfl rfl (any_of HT_.out (by kernel_rfl)) (fun _ _ _ h => h) (Or.inl ⟨by rfl, ?_⟩) ?_ ?_
                      rotate_left
                      · intro w'
                        go_simp
                        with_reducible rfl
                      rotate_left
                      · simp only [Act.put, List.setIfInBounds_toArray, List.set_cons_zero, List.set_cons_succ, i64_w, i32_w]
                        rfl
                      refine pure_ (i := 7) (N := some 38) (v := ?_) (a' := ?_) #[true, true, true, true, true, true, true, true, false, false, false, false, false, false, false, false, false, false, false, false] rfl rfl (any_of HT_.out (by kernel_rfl)) (fun _ _ _ h => h) (Or.inl ⟨by rfl, ?_⟩) ?_ ?_
                      rotate_left
                      · intro w'
                        go_simp
                        with_reducible rfl
                      rotate_left
                      · simp only [Act.put, List.setIfInBounds_toArray, List.set_cons_zero, List.set_cons_succ, i64_w, i32_w]
                        rfl
                      refine pure_ (i := 8) (N := some 39) (v := ?_) (a' := ?_) #[true, true, true, true, true, true, true, true, true, false, false, false, false, false, false, false, false, false, false, false] rfl rfl (any_of HT_.out (by kernel_rfl)) (fun _ _ _ h => h) (Or.inl ⟨by rfl, ?_⟩) ?_ ?_
                      rotate_left
                      · intro w'
                        go_simp
                        with_reducible rfl
                      rotate_left
                      · simp only [Act.put, List.setIfInBounds_toArray, List.set_cons_zero, List.set_cons_succ, i64_w, i32_w]
                        rfl
                      refine pure_ (i := 10) (N := some 41) (v := ?_) (a' := ?_) #[true, true, true, true, true, true, true, true, true, false, true, false, false, false, false, false, false, false, false, false] rfl rfl (any_of HT_.out (by kernel_rfl)) (fun _ _ _ h => h) (Or.inl ⟨by rfl, ?_⟩) ?_ ?_
                      rotate_left
                      · intro w'
                        go_simp
                        with_reducible rfl
                      rotate_left
                      · simp only [Act.put, List.setIfInBounds_toArray, List.set_cons_zero, List.set_cons_succ, i64_w, i32_w]
                        rfl
                      refine pure_ (i := 11) (N := some 42) (v := ?_) (a' := ?_) #[true, true, true, true, true, true, true, true, true, false, true, true, false, false, false, false, false, false, false, false] rfl rfl (any_of HT_.out (by kernel_rfl)) (fun _ _ _ h => h) (Or.inl ⟨by rfl, ?_⟩) ?_ ?_
                      rotate_left
                      · intro w'
                        go_simp
                        with_reducible rfl
                      rotate_left
                      · simp only [Act.put, List.setIfInBounds_toArray, List.set_cons_zero, List.set_cons_succ, i64_w, i32_w]
                        rfl
                      refine pure_ (i := 13) (N := some 44) (v := ?_) (a' := ?_) #[true, true, true, true, true, true, true, true, true, false, true, true, false, true, false, false, false, false, false, false] rfl rfl (any_of HT_.out (by kernel_rfl)) (fun _ _ _ h => h) (Or.inl ⟨by rfl, ?_⟩) ?_ ?_
                      rotate_left
                      · intro w'
                        go_simp
                        with_reducible rfl
                      rotate_left
                      · simp only [Act.put, List.setIfInBounds_toArray, List.set_cons_zero, List.set_cons_succ, i64_w, i32_w]
                        rfl
                      refine pure_ (i := 14) (N := some 45) (v := ?_) (a' := ?_) #[true, true, true, true, true, true, true, true, true, false, true, true, false, true, true, false, false, false, false, false] rfl rfl (any_of HT_.out (by kernel_rfl)) (fun _ _ _ h => h) (Or.inl ⟨by rfl, ?_⟩) ?_ ?_
                      rotate_left
                      · intro w'
                        go_simp
                        with_reducible rfl
                      rotate_left
                      · simp only [Act.put, List.setIfInBounds_toArray, List.set_cons_zero, List.set_cons_succ, i64_w, i32_w]
                        rfl
                      refine take_ (i := 9) (N := some 40) (v := ?_) (a' := ?_) #[true, true, true, true, true, true, true, true, true, true, true, true, false, true, true, false, false, false, false, false] rfl rfl (take_ofW HT_.out HW_.out (by kernel_rfl)) (fun _ _ _ h => h) (Or.inl ⟨by rfl, ?_⟩) hHeld ?_ ?_
                      rotate_left
                      · intro w' s0
                        go_simp
                        with_reducible rfl
                      rotate_left
                      · simp only [Act.put, List.setIfInBounds_toArray, List.set_cons_zero, List.set_cons_succ, i64_w, i32_w]
                        rfl
                      refine one_ (i := 12) (N := some 43) #[true, true, true, true, true, true, true, true, true, true, true, true, true, true, true, false, false, false, false, false] rfl rfl (one_of HT_.out (by kernel_rfl)) (by decide) (fun K hK => ?_)
                      refine goes_ Try.func101 (by kernel_rfl) rfl #[.string a0, .int .i64 x6_1] (by rfl) rfl rfl (by (try simp only [List.map_toArray, List.map_cons, List.map_nil]); first | done | rfl | (simp only [List.length_drop, List.length_take]; rfl)) ?_
                      with_reducible refine (offcutref01_at.calls a0 x6_1 t400 _ A13.out).mono ?_
                      rintro e w' ⟨rfl, ⟨nd, rfl⟩⟩
                      refine ⟨_, rfl, ?_⟩
                      refine hK.out _ _ (hHeld) (fun hHeld => ?_)
                      clear hK K
                      refine norm_ (a' := ?_) ?_ ?_
                      rotate_left
                      · show Act.put _ (some 43) _ = _
                        simp only [Act.put, List.setIfInBounds_toArray, List.set_cons_zero, List.set_cons_succ, i64_w, i32_w]
                        rfl
                      refine one_ (i := 15) (N := some 46) #[true, true, true, true, true, true, true, true, true, true, true, true, true, true, true, true, false, false, false, false] rfl rfl (one_of HT_.out (by kernel_rfl)) (by decide) (fun K hK => ?_)
                      refine goes_ Try.func101 (by kernel_rfl) rfl #[.string a1, .int .i64 x7_2] (by rfl) rfl rfl (by (try simp only [List.map_toArray, List.map_cons, List.map_nil]); first | done | rfl | (simp only [List.length_drop, List.length_take]; rfl)) ?_
                      with_reducible refine (offcutref01_at.calls a1 x7_2 t401 _ A14.out).mono ?_
                      rintro e w' ⟨rfl, ⟨nd, rfl⟩⟩
                      refine ⟨_, rfl, ?_⟩
                      have p15 : 0 ≤ ((ji10) : Int) := of_decide_eq_true (by first | (with_reducible assumption) | assumption)
                      have q15 : ((ji10) : Int) < ((x5_2.length : Int) : Int) := of_decide_eq_true (by first | (with_reducible assumption) | assumption)
                      obtain ⟨go15, co15, eo15, gb15, gl15, cl15, HG15⟩ := Kd.R_form HO_5.out (by omega)
                      (first | cases eo15 | (injection eo15 with ea_ en_ ec_; (first | subst ea_ | (injection ea_ with ea_; subst ea_)); subst ec_; clear en_))
                      have GB15 := Aside0.mk gb15
                      have GG15 := Aside0.mk HG15
                      clear gb15 gl15 HG15
                      (first | simp only [add_plain] at hx399_0 | skip)
                      obtain ⟨hx15_0, hf15_0⟩ := Kd.R_celln 0 HO_5.out ((ji10) : Int) p15 q15
                      replace p15 := eq_true p15
                      replace q15 := eq_true q15
                      have HP18 := Kd.R_putn HO_5.out ((ji10) : Int) (wrap64 ((rd x5_2 (ji10)) + (wrap64 (t400 * t401))))
                      rw [← Ny402.out] at HP18
                      have HQ18 := Aside0.mk HP18
                      clear HP18
                      refine hK.out _ _ (hHeld) (fun hHeld => ?_)
                      clear hK K
                      refine norm_ (a' := ?_) ?_ ?_
                      rotate_left
                      · show Act.put _ (some 46) _ = _
                        simp only [Act.put, List.setIfInBounds_toArray, List.set_cons_zero, List.set_cons_succ, i64_w, i32_w]
                        rfl
                      refine pure_ (i := 16) (N := some 47) (v := ?_) (a' := ?_) #[true, true, true, true, true, true, true, true, true, true, true, true, true, true, true, true, true, false, false, false] rfl rfl (any_of HT_.out (by kernel_rfl)) (fun _ _ _ h => h) (Or.inl ⟨by rfl, ?_⟩) ?_ ?_
                      rotate_left
                      · intro w'
                        go_simp
                        with_reducible rfl
                      rotate_left
                      · simp only [Act.put, List.setIfInBounds_toArray, List.set_cons_zero, List.set_cons_succ, i64_w, i32_w]
                        rfl
                      refine pure_ (i := 17) (N := some 48) (v := ?_) (a' := ?_) #[true, true, true, true, true, true, true, true, true, true, true, true, true, true, true, true, true, true, false, false] rfl rfl (any_of HT_.out (by kernel_rfl)) (fun _ _ _ h => h) (Or.inl ⟨by rfl, ?_⟩) ?_ ?_
                      rotate_left
                      · intro w'
                        go_simp
                        with_reducible rfl
                      rotate_left
                      · simp only [Act.put, List.setIfInBounds_toArray, List.set_cons_zero, List.set_cons_succ, i64_w, i32_w]
                        rfl
                      refine pure_ (i := 18) (N := some 49) (v := ?_) (a' := ?_) #[true, true, true, true, true, true, true, true, true, true, true, true, true, true, true, true, true, true, true, false] rfl rfl (any_of HT_.out (by kernel_rfl)) (fun _ _ _ h => h) (Or.inl ⟨by rfl, ?_⟩) ?_ ?_
                      rotate_left
                      · intro w'
                        go_simp
                        with_reducible rfl
                      rotate_left
                      · simp only [Act.put, List.setIfInBounds_toArray, List.set_cons_zero, List.set_cons_succ, i64_w, i32_w]
                        rfl
                      refine last_ (i := 19) (N := none) #[true, true, true, true, true, true, true, true, true, true, true, true, true, true, true, true, true, true, true, true] rfl rfl (one_of HT_.out (by kernel_rfl)) (by decide) (fun K hK => ?_)
                      refine skip_ (w1 := ?_) (by rfl) rfl ?_ ?_
                      rotate_left
                      · go_simp
                        rfl
                      refine hK.out _ _ ?_
                      clear hK K
                      refine done_ (done_of HT_.out (by kernel_rfl)) ?_
                      try go_wp2
                      go_roundg k2
                      case measure => have := HK1.out; have := HK2.out; omega
                      case rel => exact ⟨(y402), (wrap64 (x7_2 + 1)), (by first | rfl | (simp; done) | (simp [*]; done)), H', ⟨by have := HK1.out; have := HK2.out; omega⟩, ⟨by (with_reducible repeat (first | apply Kd.R_alloc | apply Kd.R_drewN | apply Kd.R_drew)); exact HQ18.out⟩, ⟨by repeat (first | (with_reducible first | exact HB.out | apply below_alloc | apply pw_below_drewN | apply below_drew1 | refine below_set ?_ GB15.out) | exact HB.out)⟩⟩
                    · rw [if_neg c12] at H
                      exact absurd H (by simp)
                  · rw [if_neg c11] at H
                    exact absurd H (by simp)
                · rw [if_neg c9] at H
                  have c9b0 : decide (x7_2 < (a1.size : Int)) = false := decide_eq_false c9
                  clear c9
                  have H' := Aside0.mk H
                  clear H
                  go_wp2
                  go_roundg k2
                  case measure => have := HK1.out; have := HK2.out; omega
                  case rel => exact ⟨(x5_2), (wrap64 (x6_1 + 1)), (by first | rfl | (simp; done) | (simp [*]; done)), H', ⟨by have := HK1.out; have := HK2.out; omega⟩, ⟨by (with_reducible repeat (first | apply Kd.R_alloc | apply Kd.R_drewN | apply Kd.R_drew)); exact HO_5.out⟩, ⟨by repeat (first | (with_reducible first | exact HB.out | apply below_alloc | apply pw_below_drewN | apply below_drew1) | exact HB.out)⟩⟩
          · rw [if_neg c8] at H
            have c8b0 : decide (x6_1 < (a0.size : Int)) = false := decide_eq_false c8
            clear c8
            have H' := Aside0.mk H
            clear H
            go_wp2
            go_loopg [8, 9, 10] k1 (fun kq v8 v9 v10 w' => ∃ (x8_2 : ByteArray) (x9_2 : Int) (x10_2 : Int), v8 = .string x8_2 ∧ v9 = .int .i64 x9_2 ∧ v10 = .int .i64 x10_2 ∧ Aside0 (offcutref01_Mul.l2 kq x5_1 x8_2 x9_2 x10_2 = some r) ∧ Aside0 (kq ≤ k1) ∧ Aside0 (Kd.R (Kd.int .i64) 3 w' w.heap.size (fun _ => True) v397 x5_1) ∧ Aside0 (Below w.heap.size w w'))
            case atStart => exact ⟨((⟨#[]⟩ : ByteArray)), (0), (0), (by first | rfl | (simp; done) | (simp [*]; done)), (by first | rfl | (simp; done) | (simp [*]; done)), (by first | rfl | (simp; done) | (simp [*]; done)), H', ⟨Nat.le_refl _⟩, ⟨by (with_reducible repeat (first | apply Kd.R_alloc | apply Kd.R_drewN | apply Kd.R_drew)); exact HO_5.out⟩, ⟨by repeat (first | (with_reducible first | exact HB.out | apply below_alloc | apply pw_below_drewN | apply below_drew1) | exact HB.out)⟩⟩
            case round =>
              clear H'
              try clear c1
              try clear p1
              try clear q1
              try clear hx1
              try clear p2
              try clear p3
              try clear q3
              try clear hx3
              try clear c4
              try clear c4b0
              try clear c4b1
              try clear c5
              try clear c5b0
              try clear c5b1
              try clear p6
              try clear c7
              try clear c8
              try clear c8b0
              try clear c9
              try clear c9b0
              try clear c10
              try clear c11
              try clear c11b0
              try clear c12
              try clear c12b0
              try clear p15
              try clear q15
              try clear hx15
              try clear hf15
              try clear hx15_0
              try clear hx399_0
              try clear p15
              try clear p2
              try clear p399
              try clear p6
              try clear q15
              try clear q399
              obtain ⟨x8_2, x9_2, x10_2, rfl, rfl, rfl, HA, HK2, HO_5, HB⟩ := hrel
              cases gk with
              | zero => exact absurd HA.out (by simp [offcutref01_Mul.l2])
              | succ k2 =>
                have H := HA.out
                clear HA
                simp only [offcutref01_Mul.l2] at H
                by_cases c19 : x10_2 < (x5_1.length : Int)
                · rw [if_pos c19] at H
                  have c19b0 : decide (x10_2 < (x5_1.length : Int)) = true := decide_eq_true c19
                  clear c19
                  by_cases c20 : 0 ≤ x10_2
                  · rw [if_pos c20] at H
                    have c20b0 : decide (0 ≤ x10_2) = true := decide_eq_true c20
                    clear c20
                    replace H := Option.bind_eq_some_iff.mp H
                    obtain ⟨t404, A210, H⟩ := H
                    replace H : (if t404.size + x8_2.size ≤ 9223372036854775807 then (offcutref01_Mul.l2 k2 x5_1 (t404 ++ x8_2) (wrap64 (Int.tdiv (wrap64 ((rd x5_1 x10_2) + x9_2)) 10)) (wrap64 (x10_2 + 1))) else (none)) = some r := H
                    have A21 := Aside0.mk A210
                    clear A210
                    by_cases c22 : t404.size + x8_2.size ≤ 9223372036854775807
                    · rw [if_pos c22] at H
                      have c22b0 := eq_true c22
                      have c22b1 : decide (t404.size + x8_2.size ≤ 9223372036854775807) = true := decide_eq_true c22
                      try have c22b2 : (9223372036854775807 < t404.size + x8_2.size) = False := eq_false (Nat.not_lt.2 c22)
                      have H' := Aside0.mk H
                      clear H
                      obtain ⟨Ao23, co23, eo23⟩ := Kd.R_slice HO_5.out
                      subst eo23
                      have p403 : 0 ≤ (x10_2 : Int) := of_decide_eq_true (by first | (with_reducible assumption) | assumption)
                      have q403 : x10_2 < (x5_1.length : Int) := of_decide_eq_true (by first | (with_reducible assumption) | assumption)
                      obtain ⟨ad403, e403, hx403_0⟩ := Kd.at_int (Kd.R_reads' HO_5.out).2.2 x10_2 p403 q403
                      cases e403
                      replace p403 := eq_true p403
                      replace q403 := eq_true q403
                      go_wp2_with (first | ((with_reducible refine gate_callee (f := 91) rfl ?_); refine goesL_ (some 64) rfl rfl Try.func91 (by kernel_rfl) rfl #[.int .i64 (Int.tmod (wrap64 ((rd x5_1 x10_2) + x9_2)) 10)] rfl (by (try simp only [List.map_toArray, List.map_cons, List.map_nil]); first | done | rfl | (simp only [List.length_drop, List.length_take]; rfl)) ?_; (with_reducible refine (offcutref01_sign.calls (Int.tmod (wrap64 ((rd x5_1 x10_2) + x9_2)) 10) t404 _ A21.out).mono ?_); rintro e w' ⟨rfl, ⟨nd, rfl⟩⟩; refine ⟨_, rfl, ?_⟩))
                      go_roundg k2
                      case measure => have := HK1.out; have := HK2.out; omega
                      case rel => exact ⟨(t404 ++ x8_2), (wrap64 (Int.tdiv (wrap64 ((rd x5_1 x10_2) + x9_2)) 10)), (wrap64 (x10_2 + 1)), (by first | rfl | (simp; done) | (simp [*]; done)), (by first | rfl | (simp; done) | (simp [*]; done)), (by first | rfl | (simp; done) | (simp [*]; done)), H', ⟨by have := HK1.out; have := HK2.out; omega⟩, ⟨by (with_reducible repeat (first | apply Kd.R_alloc | apply Kd.R_drewN | apply Kd.R_drew)); exact HO_5.out⟩, ⟨by repeat (first | (with_reducible first | exact HB.out | apply below_alloc | apply pw_below_drewN | apply below_drew1) | exact HB.out)⟩⟩
                    · rw [if_neg c22] at H
                      exact absurd H (by simp)
                  · rw [if_neg c20] at H
                    exact absurd H (by simp)
                · rw [if_neg c19] at H
                  have c19b0 : decide (x10_2 < (x5_1.length : Int)) = false := decide_eq_false c19
                  clear c19
                  replace H := Option.bind_eq_some_iff.mp H
                  obtain ⟨t405, A240, H⟩ := H
                  replace H : (some t405) = some r := H
                  have A24 := Aside0.mk A240
                  clear A240
                  obtain rfl := Option.some.inj H
                  obtain ⟨Ao25, co25, eo25⟩ := Kd.R_slice HO_5.out
                  subst eo25
                  go_wp2_with (first | ((with_reducible refine gate_callee (f := 92) rfl ?_); refine goesL_ (some 70) rfl rfl Try.func92 (by kernel_rfl) rfl #[.string x8_2] rfl (by (try simp only [List.map_toArray, List.map_cons, List.map_nil]); first | done | rfl | (simp only [List.length_drop, List.length_take]; rfl)) ?_; (with_reducible refine (offcutref01_cut.calls k2 x8_2 t405 _ A24.out).mono ?_); rintro e w' ⟨rfl, ⟨nd, rfl⟩⟩; refine ⟨_, rfl, ?_⟩))
                  go_ret
                  exact ⟨by first | rfl | (simp [errW_none, errW_some] <;> rfl) | (simp only [← hji3]; first | rfl | (simp [errW_none, errW_some] <;> rfl)) | (simp [*, errW_none, errW_some] <;> rfl), by repeat (first | (with_reducible first | exact HB.out | apply below_alloc | apply pw_below_drewN | apply below_drew1) | exact HB.out)⟩
    · rw [if_neg c5] at H
      exact absurd H (by simp)
  · rw [if_neg c4] at H
    exact absurd H (by simp)

/-- What is carried out of the places. -/
theorem offcutref01_Mul.ev_c {s : List Nat} {V : Nat} (hs : ∀ j, s.getD j 0 ≤ 81000000000) (hl : s.length < 3000000000) (hV : Dec.dv s = V) (hVl : V < 10 ^ s.length) (d : Nat) : ∀ (out : List Nat) (c : Nat), out.length + d = s.length → Dec.Ds out → c ≤ 81000000000 →
    Dec.dv (s.take out.length) = Dec.dv out + 10 ^ out.length * c → Ev (fun k => offcutref01_Mul.l2 k (Dec.ints s) (Dec.tx out) (c : Int) (out.length : Int)) (Dec.dec V) := by
  induction d with
  | zero =>
    intro out c hd ho hc hv
    rw [List.take_of_length_le (by omega), hV, show out.length = s.length from by omega] at hv
    have hc0 : c = 0 := by
      rcases Nat.eq_zero_or_pos c with h | h
      · exact h
      · have := Nat.mul_le_mul_left (10 ^ s.length) h
        omega
    have hvv : Dec.dv out = V := by rw [hc0] at hv; omega
    refine Ev.step (f := fun k => (offcutref01_cut.f k (Dec.tx out)).bind fun t => some t) (fun k => ?_) ?_
    · rw [offcutref01_Mul.l2, if_neg (by rw [Dec.ints_length]; omega)]
    · rw [← hvv]
      exact Ev.bind (offcutref01_cut.ev ho) (Ev.now _)
  | succ d ih =>
    intro out c hd ho hc hv
    have h1 := hs out.length
    obtain ⟨p, hp⟩ : ∃ p, p = s.getD out.length 0 := ⟨_, rfl⟩
    rw [← hp] at h1
    refine Ev.step (f := fun k => offcutref01_Mul.l2 k (Dec.ints s) (Dec.tx (out ++ [(p + c) % 10])) (((p + c) / 10 : Nat) : Int) ((out.length + 1 : Nat) : Int)) (fun k => ?_) ?_
    · rw [offcutref01_Mul.l2, if_pos (by rw [Dec.ints_length]; omega), if_pos (by omega), Dec.rd_ints, ← hp, Dec.w64a _ _ (by omega), Dec.tmod10, Dec.tdiv10, offcutref01_sign.sem _ (Nat.mod_lt _ (by omega)), Option.bind_some, Dec.tx_append, Dec.tx_size, Dec.tx_size, if_pos (by rw [List.length_singleton]; omega), Dec.w64n _ (by omega), Dec.w64s _ (by omega)]
    · have := ih (out ++ [(p + c) % 10]) ((p + c) / 10) (by rw [List.length_append, List.length_singleton]; omega) (ho.snoc (Nat.mod_lt _ (by omega))) (by omega) (by
        rw [List.length_append, List.length_singleton, Dec.dv_take_succ, ← hp, Dec.dv_snoc, Nat.pow_succ]
        have h3 : 10 ^ out.length * (p + c) = 10 ^ out.length * ((p + c) % 10 + 10 * ((p + c) / 10)) := by congr 1; omega
        rw [Nat.mul_add, Nat.mul_add, ← Nat.mul_assoc] at h3
        omega)
      rw [List.length_append, List.length_singleton] at this
      exact this
/-- One row of the product; then what follows (K). -/
theorem offcutref01_Mul.ev_r {a b : List Nat} (ha : Dec.Ds a) (hb : Dec.Ds b) (la : a.length < 1000000000) (lb : b.length < 1000000000) {r : ByteArray} {i : Nat} (hi : i < a.length) (M : Nat)
    (next : ∀ s : List Nat, s.length = a.length + b.length + 1 → (∀ j, s.getD j 0 ≤ 81 * (i + 1)) → Dec.dv s = M + 10 ^ i * (a.getD i 0 * Dec.dv b) → Ev (fun k => offcutref01_Mul.l0 k (Dec.tx a) (Dec.tx b) (Dec.ints s) ((i + 1 : Nat) : Int)) r) (d : Nat) : ∀ (s : List Nat) (q : Nat), q + d = b.length → s.length = a.length + b.length + 1 → (∀ j, s.getD j 0 ≤ 81 * (i + 1)) → (∀ j, i + q ≤ j → s.getD j 0 ≤ 81 * i) →
    Dec.dv s = M + 10 ^ i * (a.getD i 0 * Dec.dv (b.take q)) → Ev (fun k => offcutref01_Mul.l1 k (Dec.tx a) (Dec.tx b) (Dec.ints s) (i : Int) (q : Int)) r := by
  induction d with
  | zero =>
    intro s q hd hl h1 h2 hv
    refine Ev.step (f := fun k => offcutref01_Mul.l0 k (Dec.tx a) (Dec.tx b) (Dec.ints s) ((i + 1 : Nat) : Int)) (fun k => ?_) (next s hl h1 ?_)
    · rw [offcutref01_Mul.l1, Dec.tx_size, if_neg (by omega), Dec.w64s _ (by omega)]
    · rw [List.take_of_length_le (by omega)] at hv
      exact hv
  | succ d ih =>
    intro s q hd hl h1 h2 hv
    have g1 := ha.getD i
    have g2 := hb.getD q
    obtain ⟨x, hx⟩ : ∃ x, x = a.getD i 0 := ⟨_, rfl⟩
    obtain ⟨y, hy⟩ : ∃ y, y = b.getD q 0 := ⟨_, rfl⟩
    rw [← hx] at g1
    rw [← hy] at g2
    have hxy : x * y ≤ 81 := Nat.mul_le_mul (show x ≤ 9 from by omega) (show y ≤ 9 from by omega)
    have hp := h2 (i + q) (Nat.le_refl _)
    refine Ev.step (f := fun k => offcutref01_Mul.l1 k (Dec.tx a) (Dec.tx b) (Dec.ints (s.set (i + q) (s.getD (i + q) 0 + x * y))) (i : Int) ((q + 1 : Nat) : Int)) (fun k => ?_) ?_
    · rw [offcutref01_Mul.l1, Dec.tx_size, if_pos (by omega), Dec.w64a _ _ (by omega), if_pos (by omega), if_pos (by rw [Dec.ints_length]; omega), offcutref01_at.sem ha (by omega), offcutref01_at.sem hb (by omega), Option.bind_some, Option.bind_some, ← hx, ← hy, Dec.rd_ints, Int.toNat_natCast, Dec.w64m _ _ (by omega), Dec.w64a _ _ (by omega), Dec.ints_set, Dec.w64s _ (by omega)]
    · refine ih _ (q + 1) (by omega) (by rw [List.length_set]; exact hl) (fun j => ?_) (fun j hj => ?_) ?_
      · rw [Dec.getD_set]
        split
        · omega
        · exact h1 j
      · rw [Dec.getD_set, if_neg (by omega)]
        exact h2 j (by omega)
      · rw [Dec.dv_set _ _ (by omega), hv, Dec.dv_take_succ, ← hx, ← hy, Nat.mul_add, Nat.mul_add, Nat.pow_add]
        have : 10 ^ i * (x * (10 ^ q * y)) = 10 ^ i * 10 ^ q * (x * y) := by rw [Nat.mul_left_comm x, Nat.mul_assoc]
        omega
theorem offcutref01_Mul.ev_l {a b : List Nat} (ha : Dec.Ds a) (hb : Dec.Ds b) (la : a.length < 1000000000) (lb : b.length < 1000000000) (d : Nat) : ∀ (s : List Nat) (i : Nat), i + d = a.length → s.length = a.length + b.length + 1 → (∀ j, s.getD j 0 ≤ 81 * i) → Dec.dv s = Dec.dv (a.take i) * Dec.dv b →
    Ev (fun k => offcutref01_Mul.l0 k (Dec.tx a) (Dec.tx b) (Dec.ints s) (i : Int)) (Dec.dec (Dec.dv a * Dec.dv b)) := by
  induction d with
  | zero =>
    intro s i hd hl h1 hv
    refine Ev.step (f := fun k => offcutref01_Mul.l2 k (Dec.ints s) (Dec.tx []) ((0 : Nat) : Int) ((([] : List Nat).length : Nat) : Int)) (fun k => ?_) ?_
    · rw [offcutref01_Mul.l0, Dec.tx_size, if_neg (by omega)]
      rfl
    · rw [List.take_of_length_le (by omega)] at hv
      refine offcutref01_Mul.ev_c (fun j => Nat.le_trans (h1 j) (by omega)) (by omega) hv ?_ s.length [] 0 (by rw [List.length_nil]; omega) Dec.Ds.nil (by omega) (by rw [List.length_nil, List.take_zero]; rfl)
      rw [hl, Nat.pow_succ, Nat.pow_add]
      have h2 := Nat.mul_le_mul (Nat.le_of_lt (Dec.dv_lt ha)) (Nat.le_of_lt (Dec.dv_lt hb))
      have h3 : 0 < 10 ^ a.length * 10 ^ b.length := Nat.mul_pos (Nat.pow_pos (by omega)) (Nat.pow_pos (by omega))
      omega
  | succ d ih =>
    intro s i hd hl h1 hv
    refine Ev.step (f := fun k => offcutref01_Mul.l1 k (Dec.tx a) (Dec.tx b) (Dec.ints s) (i : Int) ((0 : Nat) : Int)) (fun k => ?_) ?_
    · rw [offcutref01_Mul.l0, Dec.tx_size, if_pos (by omega)]
      rfl
    · refine offcutref01_Mul.ev_r ha hb la lb (by omega) (Dec.dv s) (fun s' hl' h1' hv' => ?_) b.length s 0 (by omega) hl (fun j => Nat.le_trans (h1 j) (by omega)) (fun j _ => h1 j) (by rw [List.take_zero, Dec.dv]; omega)
      refine ih s' (i + 1) (by omega) hl' h1' ?_
      rw [hv', hv, Dec.dv_take_succ, Nat.add_mul, Nat.mul_assoc]
theorem offcutref01_Mul.ev {a b : List Nat} (ha : Dec.Ds a) (hb : Dec.Ds b) (la : a.length < 1000000000) (lb : b.length < 1000000000) : Ev (fun k => offcutref01_Mul.f k (Dec.tx a) (Dec.tx b)) (Dec.dec (Dec.dv a * Dec.dv b)) := by
  have := offcutref01_Mul.ev_l ha hb la lb a.length (List.replicate (a.length + b.length + 1) 0) 0 (by omega) (List.length_replicate) (fun j => by rw [List.getD_eq_getElem?_getD, List.getElem?_replicate]; split <;> simp) (by rw [Dec.dv_zeros, List.take_zero, Dec.dv, Nat.zero_mul])
  refine Ev.congr (fun k => ?_) this
  unfold offcutref01_Mul.f
  rw [Dec.tx_size, Dec.tx_size, Dec.w64a _ _ (by omega), Dec.w64s _ (by omega), if_pos (by omega), Int.toNat_natCast, if_pos (by omega), Dec.ints_zeros]
  rfl

end Go.Proofs.Ytjpkljkkcbaohaa.PR

end
section
namespace Go.Proofs.Ytjpkljkkcbaohaa.PR
open Go.RowKit Go.Proofs.YtjpkljkkcbaohaaW.PrintWords Go.Proofs.YtjpkljkkcbaohaaW.PrintLast Go.Proofs.YtjpkljkkcbaohaaW.PrintMore
attribute [local go_sem] max2_int min2_int max_two min_two max_three min_three max_four min_four   -- for this text's walks alone
set_option linter.unusedVariables false
set_option linter.unusedSimpArgs false

/-! ### offcutref01_Of: function 43 -/
mutual
def offcutref01_Of.l0 : Nat → List Int → ByteArray → Int → Option (ByteArray)
  | 0, _, _, _ => none
  | k + 1, x0, x3, x4 => if x4 ≥ 0 then ((offcutref01_Mul.f k x3 (⟨#[52, 50, 57, 52, 57, 54, 55, 50, 57, 54]⟩ : ByteArray)).bind fun t406 => (if 0 ≤ x4 then (if x4 < (x0.length : Int) then (offcutref01_Of.l1 k x0 t406 x4 (rd x0 x4) (⟨#[]⟩ : ByteArray)) else (none)) else (none))) else (some x3)
def offcutref01_Of.l1 : Nat → List Int → ByteArray → Int → Int → ByteArray → Option (ByteArray)
  | 0, _, _, _, _, _ => none
  | k + 1, x0, x3, x4, x5, x6 => if x5 > 0 then ((offcutref01_sign.f (wrap64 (Int.tmod x5 10))).bind fun t408 => (if t408.size + x6.size ≤ 9223372036854775807 then (offcutref01_Of.l1 k x0 x3 x4 ((Int.tdiv x5 10) % 4294967296) (t408 ++ x6)) else (none))) else ((offcutref01_cut.f k x6).bind fun t409 => ((offcutref01_Add.f k x3 t409).bind fun t410 => (offcutref01_Of.l0 k x0 t410 (wrap64 (x4 - 1)))))
end
def offcutref01_Of.f (k : Nat) (l0 : List Int) : Option (ByteArray) := offcutref01_Of.l0 k l0 (⟨#[48]⟩ : ByteArray) (wrap64 ((l0.length : Int) - 1))
theorem offcutref01_Of.mono_l : ∀ k, (∀ y0 y1 y2, LeO (offcutref01_Of.l0 k y0 y1 y2) (offcutref01_Of.l0 (k + 1) y0 y1 y2)) ∧ (∀ y0 y1 y2 y3 y4, LeO (offcutref01_Of.l1 k y0 y1 y2 y3 y4) (offcutref01_Of.l1 (k + 1) y0 y1 y2 y3 y4))
  | 0 => ⟨fun _ _ _ r h => by simp [offcutref01_Of.l0] at h, fun _ _ _ _ _ r h => by simp [offcutref01_Of.l1] at h⟩
  | k + 1 => by
    obtain ⟨ih0, ih1⟩ := offcutref01_Of.mono_l k
    refine ⟨?_, ?_⟩
    · intro y0 y1 y2
      unfold offcutref01_Of.l0
      repeat' first
      | (with_reducible exact ih0 _ _ _)
      | (with_reducible exact ih1 _ _ _ _ _)
      | (with_reducible exact offcutref01_Add.mono _ _ _)
      | (with_reducible exact offcutref01_Mul.mono _ _ _)
      | (with_reducible exact offcutref01_cut.mono _ _)
      | (with_reducible exact LeO.refl _)
      | (with_reducible exact LeO.none _)
      | (with_reducible refine LeO.ite ?_ ?_)
      | (with_reducible refine LeO.bind ?_ (fun _ => ?_))
      | exact ih0 _ _ _
      | exact ih1 _ _ _ _ _
      | exact offcutref01_Add.mono _ _ _
      | exact offcutref01_Mul.mono _ _ _
      | exact offcutref01_cut.mono _ _
      | exact LeO.none _
      | refine LeO.ite ?_ ?_
      | refine LeO.bind ?_ (fun _ => ?_)
    · intro y0 y1 y2 y3 y4
      unfold offcutref01_Of.l1
      repeat' first
      | (with_reducible exact ih0 _ _ _)
      | (with_reducible exact ih1 _ _ _ _ _)
      | (with_reducible exact offcutref01_Add.mono _ _ _)
      | (with_reducible exact offcutref01_Mul.mono _ _ _)
      | (with_reducible exact offcutref01_cut.mono _ _)
      | (with_reducible exact LeO.refl _)
      | (with_reducible exact LeO.none _)
      | (with_reducible refine LeO.ite ?_ ?_)
      | (with_reducible refine LeO.bind ?_ (fun _ => ?_))
      | exact ih0 _ _ _
      | exact ih1 _ _ _ _ _
      | exact offcutref01_Add.mono _ _ _
      | exact offcutref01_Mul.mono _ _ _
      | exact offcutref01_cut.mono _ _
      | exact LeO.none _
      | refine LeO.ite ?_ ?_
      | refine LeO.bind ?_ (fun _ => ?_)
theorem offcutref01_Of.mono : ∀ a0 k, LeO (offcutref01_Of.f k a0) (offcutref01_Of.f (k + 1) a0) := by
  intro a0 k
  obtain ⟨ih0, ih1⟩ := offcutref01_Of.mono_l k
  unfold offcutref01_Of.f
  repeat' first
      | (with_reducible exact ih0 _ _ _)
      | (with_reducible exact ih1 _ _ _ _ _)
      | (with_reducible exact offcutref01_Add.mono _ _ _)
      | (with_reducible exact offcutref01_Mul.mono _ _ _)
      | (with_reducible exact offcutref01_cut.mono _ _)
      | (with_reducible exact LeO.refl _)
      | (with_reducible exact LeO.none _)
      | (with_reducible refine LeO.ite ?_ ?_)
      | (with_reducible refine LeO.bind ?_ (fun _ => ?_))
      | exact ih0 _ _ _
      | exact ih1 _ _ _ _ _
      | exact offcutref01_Add.mono _ _ _
      | exact offcutref01_Mul.mono _ _ _
      | exact offcutref01_cut.mono _ _
      | exact LeO.none _
      | refine LeO.ite ?_ ?_
      | refine LeO.bind ?_ (fun _ => ?_)
set_option maxHeartbeats 8000000 in
set_option maxRecDepth 100000 in
theorem offcutref01_Of.calls (k : Nat) (A0 : Option Addr) (c0 : Nat) (l0 : List Int) (r : ByteArray) (w : World) (hr0 : Kd.C (Kd.int .u32) w A0 l0.length l0) (hc0 : l0.length ≤ c0) (h : offcutref01_Of.f k l0 = some r) :
    Calls Try.prog 43 #[.slice A0 l0.length c0] w fun e w' => e = .returned (.string r) ∧ Below w.heap.size w w' := by
  have HR0 := Aside0.mk hr0
  have HC0 := Aside0.mk hc0
  clear hr0 hc0
  have HB := Aside0.mk (Below.refl w.heap.size w)
  have H : (offcutref01_Of.l0 k l0 (⟨#[48]⟩ : ByteArray) (wrap64 ((l0.length : Int) - 1))) = some r := h
  clear h
  have H' := Aside0.mk H
  clear H
  go_enter Try.func43, Try.ntmps43
  go_wp2
  go_loopg [3, 4] k (fun kq v3 v4 w' => ∃ (x3_1 : ByteArray) (x4_1 : Int), v3 = .string x3_1 ∧ v4 = .int .i64 x4_1 ∧ Aside0 (offcutref01_Of.l0 kq l0 x3_1 x4_1 = some r) ∧ Aside0 (kq ≤ k) ∧ Aside0 (Below w.heap.size w w'))
  case atStart => exact ⟨((⟨#[48]⟩ : ByteArray)), (wrap64 ((l0.length : Int) - 1)), (by first | rfl | (simp; done) | (simp [*]; done)), (by first | rfl | (simp; done) | (simp [*]; done)), H', ⟨Nat.le_refl _⟩, ⟨by repeat (first | (with_reducible first | exact HB.out | apply below_alloc | apply pw_below_drewN | apply below_drew1) | exact HB.out)⟩⟩
  case round =>
    clear H'
    obtain ⟨x3_1, x4_1, rfl, rfl, HA, HK1, HB⟩ := hrel
    cases gk with
    | zero => exact absurd HA.out (by simp [offcutref01_Of.l0])
    | succ k1 =>
      have H := HA.out
      clear HA
      simp only [offcutref01_Of.l0] at H
      by_cases c2 : x4_1 ≥ 0
      · rw [if_pos c2] at H
        have c2b0 : decide (0 ≤ x4_1) = true := decide_eq_true c2
        clear c2
        replace H := Option.bind_eq_some_iff.mp H
        obtain ⟨t406, A30, H⟩ := H
        replace H : (if 0 ≤ x4_1 then (if x4_1 < (l0.length : Int) then (offcutref01_Of.l1 k1 l0 t406 x4_1 (rd l0 x4_1) (⟨#[]⟩ : ByteArray)) else (none)) else (none)) = some r := H
        have A3 := Aside0.mk A30
        clear A30
        by_cases c4 : 0 ≤ x4_1
        · rw [if_pos c4] at H
          have c4b0 : decide (0 ≤ x4_1) = true := decide_eq_true c4
          clear c4
          by_cases c5 : x4_1 < (l0.length : Int)
          · rw [if_pos c5] at H
            have c5b0 : decide (x4_1 < (l0.length : Int)) = true := decide_eq_true c5
            clear c5
            have H' := Aside0.mk H
            clear H
            go_wp2_with (first | ((with_reducible refine gate_callee (f := 79) rfl ?_); refine goesL_ (some 15) rfl rfl Try.func79 (by kernel_rfl) rfl #[.string x3_1, .string (⟨#[52, 50, 57, 52, 57, 54, 55, 50, 57, 54]⟩ : ByteArray)] rfl (by (try simp only [List.map_toArray, List.map_cons, List.map_nil]); first | done | rfl | (simp only [List.length_drop, List.length_take]; rfl)) ?_; (with_reducible refine (offcutref01_Mul.calls k1 x3_1 (⟨#[52, 50, 57, 52, 57, 54, 55, 50, 57, 54]⟩ : ByteArray) t406 _ A3.out).mono ?_); rintro e w6 ⟨rfl, hb⟩; refine ⟨_, rfl, ?_⟩; have n0_ := Aside0.mk (below_step (by repeat (first | (with_reducible first | exact HB.out | apply below_alloc | apply pw_below_drewN | apply below_drew1) | exact HB.out)) hb); clear HB; have HB := n0_; clear n0_; (try clear hb); have p407 : 0 ≤ (x4_1 : Int) := of_decide_eq_true (by first | (with_reducible assumption) | assumption); have q407 : x4_1 < (l0.length : Int) := of_decide_eq_true (by first | (with_reducible assumption) | assumption); obtain ⟨ad407, e407, hx407_0⟩ := Kd.at_int HR0.out x4_1 p407 q407; cases e407; replace hx407_0 := (HB.out.cell (World.block_lt_of_cell? w _ hx407_0)).trans hx407_0; replace p407 := eq_true p407; replace q407 := eq_true q407))
            go_loopg [5, 6] k1 (fun kq v5 v6 w' => ∃ (x5_2 : Int) (x6_2 : ByteArray), v5 = .int .u32 x5_2 ∧ v6 = .string x6_2 ∧ Aside0 (offcutref01_Of.l1 kq l0 t406 x4_1 x5_2 x6_2 = some r) ∧ Aside0 (kq ≤ k1) ∧ Aside0 (Below w.heap.size w w'))
            case atStart => exact ⟨(rd l0 x4_1), ((⟨#[]⟩ : ByteArray)), (by first | rfl | (simp; done) | (simp [*]; done)), (by first | rfl | (simp; done) | (simp [*]; done)), H', ⟨Nat.le_refl _⟩, ⟨by repeat (first | (with_reducible first | exact HB.out | apply below_alloc | apply pw_below_drewN | apply below_drew1) | exact HB.out)⟩⟩
            case round =>
              clear H'
              try clear c2
              try clear c2b0
              try clear p2
              try clear c4
              try clear c4b0
              try clear p4
              try clear q4
              try clear hx4
              try clear c5
              try clear c5b0
              try clear p6
              try clear hx407_0
              try clear p407
              try clear q407
              obtain ⟨x5_2, x6_2, rfl, rfl, HA, HK2, HB⟩ := hrel
              cases gk with
              | zero => exact absurd HA.out (by simp [offcutref01_Of.l1])
              | succ k2 =>
                have H := HA.out
                clear HA
                simp only [offcutref01_Of.l1] at H
                by_cases c7 : x5_2 > 0
                · rw [if_pos c7] at H
                  have c7b0 : decide (0 < x5_2) = true := decide_eq_true c7
                  clear c7
                  replace H := Option.bind_eq_some_iff.mp H
                  obtain ⟨t408, A80, H⟩ := H
                  replace H : (if t408.size + x6_2.size ≤ 9223372036854775807 then (offcutref01_Of.l1 k2 l0 t406 x4_1 ((Int.tdiv x5_2 10) % 4294967296) (t408 ++ x6_2)) else (none)) = some r := H
                  have A8 := Aside0.mk A80
                  clear A80
                  by_cases c9 : t408.size + x6_2.size ≤ 9223372036854775807
                  · rw [if_pos c9] at H
                    have c9b0 := eq_true c9
                    have c9b1 : decide (t408.size + x6_2.size ≤ 9223372036854775807) = true := decide_eq_true c9
                    try have c9b2 : (9223372036854775807 < t408.size + x6_2.size) = False := eq_false (Nat.not_lt.2 c9)
                    have H' := Aside0.mk H
                    clear H
                    go_wp2_with (first | ((with_reducible refine gate_callee (f := 91) rfl ?_); refine goesL_ (some 25) rfl rfl Try.func91 (by kernel_rfl) rfl #[.int .i64 (wrap64 (Int.tmod x5_2 10))] rfl (by (try simp only [List.map_toArray, List.map_cons, List.map_nil]); first | done | rfl | (simp only [List.length_drop, List.length_take]; rfl)) ?_; (with_reducible refine (offcutref01_sign.calls (wrap64 (Int.tmod x5_2 10)) t408 _ A8.out).mono ?_); rintro e w' ⟨rfl, ⟨nd, rfl⟩⟩; refine ⟨_, rfl, ?_⟩))
                    go_roundg k2
                    case measure => have := HK1.out; have := HK2.out; omega
                    case rel => exact ⟨((Int.tdiv x5_2 10) % 4294967296), (t408 ++ x6_2), (by first | rfl | (simp; done) | (simp [*]; done)), (by first | rfl | (simp; done) | (simp [*]; done)), H', ⟨by have := HK1.out; have := HK2.out; omega⟩, ⟨by repeat (first | (with_reducible first | exact HB.out | apply below_alloc | apply pw_below_drewN | apply below_drew1) | exact HB.out)⟩⟩
                  · rw [if_neg c9] at H
                    exact absurd H (by simp)
                · rw [if_neg c7] at H
                  have c7b0 : decide (0 < x5_2) = false := decide_eq_false c7
                  clear c7
                  replace H := Option.bind_eq_some_iff.mp H
                  obtain ⟨t409, A100, H⟩ := H
                  replace H : ((offcutref01_Add.f k2 t406 t409).bind fun t410 => (offcutref01_Of.l0 k2 l0 t410 (wrap64 (x4_1 - 1)))) = some r := H
                  have A10 := Aside0.mk A100
                  clear A100
                  replace H := Option.bind_eq_some_iff.mp H
                  obtain ⟨t410, A110, H⟩ := H
                  replace H : (offcutref01_Of.l0 k2 l0 t410 (wrap64 (x4_1 - 1))) = some r := H
                  have A11 := Aside0.mk A110
                  clear A110
                  have H' := Aside0.mk H
                  clear H
                  go_wp2_with (first | ((with_reducible refine gate_callee (f := 92) rfl ?_); refine goesL_ (some 32) rfl rfl Try.func92 (by kernel_rfl) rfl #[.string x6_2] rfl (by (try simp only [List.map_toArray, List.map_cons, List.map_nil]); first | done | rfl | (simp only [List.length_drop, List.length_take]; rfl)) ?_; (with_reducible refine (offcutref01_cut.calls k2 x6_2 t409 _ A10.out).mono ?_); rintro e w' ⟨rfl, ⟨nd, rfl⟩⟩; refine ⟨_, rfl, ?_⟩) | ((with_reducible refine gate_callee (f := 74) rfl ?_); refine goesL_ (some 33) rfl rfl Try.func74 (by kernel_rfl) rfl #[.string t406, .string t409] rfl (by (try simp only [List.map_toArray, List.map_cons, List.map_nil]); first | done | rfl | (simp only [List.length_drop, List.length_take]; rfl)) ?_; (with_reducible refine (offcutref01_Add.calls k2 t406 t409 t410 _ A11.out).mono ?_); rintro e w' ⟨rfl, ⟨nd, rfl⟩⟩; refine ⟨_, rfl, ?_⟩))
                  go_roundg k2
                  case measure => have := HK1.out; have := HK2.out; omega
                  case rel => exact ⟨(t410), (wrap64 (x4_1 - 1)), (by first | rfl | (simp; done) | (simp [*]; done)), (by first | rfl | (simp; done) | (simp [*]; done)), H', ⟨by have := HK1.out; have := HK2.out; omega⟩, ⟨by repeat (first | (with_reducible first | exact HB.out | apply below_alloc | apply pw_below_drewN | apply below_drew1) | exact HB.out)⟩⟩
          · rw [if_neg c5] at H
            exact absurd H (by simp)
        · rw [if_neg c4] at H
          exact absurd H (by simp)
      · rw [if_neg c2] at H
        have c2b0 : decide (0 ≤ x4_1) = false := decide_eq_false c2
        clear c2
        obtain rfl := Option.some.inj H
        go_wp2
        go_ret
        exact ⟨by first | rfl | (simp [errW_none, errW_some] <;> rfl) | (simp [*, errW_none, errW_some] <;> rfl), by repeat (first | (with_reducible first | exact HB.out | apply below_alloc | apply pw_below_drewN | apply below_drew1) | exact HB.out)⟩

/-- One word's digits; then what follows. -/
theorem offcutref01_Of.ev_w {l : List Int} {r : ByteArray} {M u : Nat} {i : Int} (hM : (Dec.dc M).length < 1000000000) (hu : u < 10000000000)
    (next : Ev (fun k => offcutref01_Of.l0 k l (Dec.dec (M + u)) (wrap64 (i - 1))) r) (d : Nat) : ∀ (n : Nat) (out : List Nat), n < 10 ^ d → out.length + d ≤ 10 → Dec.Ds out → Dec.dv out + 10 ^ out.length * n = u →
    Ev (fun k => offcutref01_Of.l1 k l (Dec.dec M) i (n : Int) (Dec.tx out)) r := by
  have stop : ∀ out : List Nat, Dec.Ds out → Dec.dv out = u → Ev (fun k => offcutref01_Of.l1 k l (Dec.dec M) i ((0 : Nat) : Int) (Dec.tx out)) r := by
    intro out ho hv
    refine Ev.step (f := fun k => (offcutref01_cut.f k (Dec.tx out)).bind fun t235 => ((offcutref01_Add.f k (Dec.dec M) t235).bind fun t236 => (offcutref01_Of.l0 k l t236 (wrap64 (i - 1))))) (fun k => ?_) ?_
    · rw [offcutref01_Of.l1, if_neg (by omega)]
    · refine Ev.bind (offcutref01_cut.ev ho) ?_
      rw [hv]
      have := offcutref01_Add.ev (Dec.Ds_dc M) (Dec.Ds_dc u) hM (Nat.lt_of_le_of_lt (Dec.dc_length_le (k := 10) (by omega) (by omega)) (by omega))
      rw [Dec.dv_dc, Dec.dv_dc] at this
      exact Ev.bind this next
  induction d with
  | zero =>
    intro n out hn hl ho hv
    obtain rfl : n = 0 := by rw [Nat.pow_zero] at hn; omega
    exact stop out ho (by omega)
  | succ d ih =>
    intro n out hn hl ho hv
    rcases Nat.eq_zero_or_pos n with h0 | h0
    · subst h0
      exact stop out ho (by omega)
    · have hnu : n < 10 ^ 10 := Nat.lt_of_lt_of_le hn (Nat.pow_le_pow_right (by omega) (by omega))
      have hnv : n < 10000000000 := hnu
      refine Ev.step (f := fun k => offcutref01_Of.l1 k l (Dec.dec M) i ((n / 10 : Nat) : Int) (Dec.tx (out ++ [n % 10]))) (fun k => ?_) ?_
      · rw [offcutref01_Of.l1, if_pos (by omega), Dec.tmod10, Dec.tdiv10, Dec.w64n _ (by omega), offcutref01_sign.sem _ (Nat.mod_lt _ (by omega)), Option.bind_some, Dec.tx_append, Dec.tx_size, Dec.tx_size, if_pos (by rw [List.length_singleton]; omega), show ((n / 10 : Nat) : Int) % 4294967296 = ((n / 10 : Nat) : Int) from by omega]
      · refine ih (n / 10) (out ++ [n % 10]) (by rw [Nat.pow_succ] at hn; omega) (by rw [List.length_append, List.length_singleton]; omega) (ho.snoc (Nat.mod_lt _ (by omega))) ?_
        rw [Dec.dv_snoc, List.length_append, List.length_singleton, Nat.pow_succ, ← hv]
        have h3 : 10 ^ out.length * n = 10 ^ out.length * (n % 10 + 10 * (n / 10)) := by congr 1; omega
        rw [Nat.mul_add, ← Nat.mul_assoc] at h3
        omega
theorem offcutref01_Of.ev_l {l : List Int} (hW : Num.Ws l) (hl : l.length < 10000000) : ∀ i, i ≤ l.length → Ev (fun k => offcutref01_Of.l0 k l (Dec.dec (Num.nv (l.drop i))) ((i : Int) - 1)) (Dec.dec (Num.nv l)) := by
  intro i
  induction i with
  | zero =>
    intro hi
    refine Ev.step (f := fun _ => some (Dec.dec (Num.nv (l.drop 0)))) (fun k => ?_) ?_
    · rw [offcutref01_Of.l0, if_neg (by omega)]
    · rw [List.drop_zero]
      exact Ev.now _
  | succ i ih =>
    intro hi
    have hb := Num.nv_lt (hW.drop (i + 1))
    rw [List.length_drop] at hb
    have hb2 : Num.nv (l.drop (i + 1)) < 2 ^ (32 * l.length) := Nat.lt_of_lt_of_le hb (Nat.pow_le_pow_right (by omega) (by omega))
    have hl1 := Dec.dc_len32 (by omega) hb2
    have hb3 : Num.nv (l.drop (i + 1)) * 4294967296 < 2 ^ (32 * (l.length + 1)) := by
      rw [Num.pow_succ32]
      exact Nat.mul_lt_mul_of_pos_right hb2 (by omega)
    have hl2 := Dec.dc_len32 (by omega) hb3
    have hw := hW.getD i
    obtain ⟨u, hu⟩ : ∃ u : Nat, (u : Int) = l.getD i 0 := ⟨(l.getD i 0).toNat, by omega⟩
    have hd : Num.nv (l.drop i) = Num.nv (l.drop (i + 1)) * 4294967296 + u := by
      rw [List.drop_eq_getElem_cons (by omega), Num.nv]
      have : l[i] = (u : Int) := by rw [hu, List.getD_eq_getElem?_getD, List.getElem?_eq_getElem (by omega)]; rfl
      rw [this, Int.toNat_natCast]
      omega
    have hm := offcutref01_Mul.ev (Dec.Ds_dc (Num.nv (l.drop (i + 1)))) Dec.Ds_2_32 (by omega) (by decide)
    rw [Dec.dv_dc, show Dec.dv [6, 9, 2, 7, 6, 9, 4, 9, 2, 4] = 4294967296 from rfl] at hm
    refine Ev.step (f := fun k => (offcutref01_Mul.f k (Dec.tx (Dec.dc (Num.nv (l.drop (i + 1))))) (Dec.tx [6, 9, 2, 7, 6, 9, 4, 9, 2, 4])).bind fun t232 => (offcutref01_Of.l1 k l t232 (i : Int) (u : Int) (Dec.tx []))) (fun k => ?_) (Ev.bind hm ?_)
    · rw [offcutref01_Of.l0, show (((i + 1 : Nat) : Int) - 1) = (i : Int) from by omega, if_pos (by omega)]
      refine congrArg _ (funext fun t232 => ?_)
      rw [if_pos (by omega), if_pos (by omega), show rd l (i : Int) = (u : Int) from by rw [hu]; simp [rd]]
      rfl
    · refine offcutref01_Of.ev_w (u := u) (by omega) (by omega) ?_ 10 u [] (by omega) (by decide) Dec.Ds.nil (by rw [List.length_nil, Dec.dv]; omega)
      rw [Dec.w64 (by omega) (by omega), ← hd]
      exact ih (by omega)
theorem offcutref01_Of.ev {l : List Int} (hW : Num.Ws l) (hl : l.length < 10000000) : Ev (fun k => offcutref01_Of.f k l) (Dec.dec (Num.nv l)) := by
  have := offcutref01_Of.ev_l hW hl l.length (Nat.le_refl _)
  rw [List.drop_length, Num.nv, Dec.dec_zero] at this
  refine Ev.congr (fun k => ?_) this
  unfold offcutref01_Of.f
  rw [Dec.w64 (by omega) (by omega)]

end Go.Proofs.Ytjpkljkkcbaohaa.PR

end
section
namespace Go.Proofs.Ytjpkljkkcbaohaa.PR
open Go.RowKit Go.Proofs.YtjpkljkkcbaohaaW.PrintWords Go.Proofs.YtjpkljkkcbaohaaW.PrintLast Go.Proofs.YtjpkljkkcbaohaaW.PrintMore
attribute [local go_sem] max2_int min2_int max_two min_two max_three min_three max_four min_four   -- for this text's walks alone
set_option linter.unusedVariables false
set_option linter.unusedSimpArgs false

/-! ### offcutlaw02_of: function 19 -/
def offcutlaw02_of.f (k : Nat) (a0_0 : Bool) (l0_1 : List Int) : Option (ByteArray) := (offcutref01_Of.f k l0_1).bind fun t412 => ((offcutref02_Made.f a0_0 t412).bind fun t413 => (some t413))
theorem offcutlaw02_of.mono : ∀ a0 a1 k, LeO (offcutlaw02_of.f k a0 a1) (offcutlaw02_of.f (k + 1) a0 a1) := by
  intro a0 a1 k
  unfold offcutlaw02_of.f
  repeat' first
      | (with_reducible exact offcutref01_Of.mono _ _)
      | (with_reducible exact LeO.refl _)
      | (with_reducible exact LeO.none _)
      | (with_reducible refine LeO.ite ?_ ?_)
      | (with_reducible refine LeO.bind ?_ (fun _ => ?_))
      | exact offcutref01_Of.mono _ _
      | exact LeO.none _
      | refine LeO.ite ?_ ?_
      | refine LeO.bind ?_ (fun _ => ?_)
set_option maxHeartbeats 8000000 in
set_option maxRecDepth 100000 in
theorem offcutlaw02_of.calls (k : Nat) (a0_0 : Bool) (A0_1 : Option Addr) (c0_1 : Nat) (l0_1 : List Int) (r : ByteArray) (w : World) (hr0_1 : Kd.C (Kd.int .u32) w A0_1 l0_1.length l0_1) (hc0_1 : l0_1.length ≤ c0_1) (h : offcutlaw02_of.f k a0_0 l0_1 = some r) :
    Calls Try.prog 19 #[.agg #[.bool a0_0, .slice A0_1 l0_1.length c0_1]] w fun e w' => e = .returned (.string r) ∧ Below w.heap.size w w' := by
  have hu25 := Try.underlying25
  have HR0_1 := Aside0.mk hr0_1
  have HC0_1 := Aside0.mk hc0_1
  clear hr0_1 hc0_1
  have HB := Aside0.mk (Below.refl w.heap.size w)
  have H : ((offcutref01_Of.f k l0_1).bind fun t412 => ((offcutref02_Made.f a0_0 t412).bind fun t413 => (some t413))) = some r := h
  clear h
  replace H := Option.bind_eq_some_iff.mp H
  obtain ⟨t412, A20, H⟩ := H
  replace H : ((offcutref02_Made.f a0_0 t412).bind fun t413 => (some t413)) = some r := H
  have A2 := Aside0.mk A20
  clear A20
  replace H := Option.bind_eq_some_iff.mp H
  obtain ⟨t413, A30, H⟩ := H
  replace H : (some t413) = some r := H
  have A3 := Aside0.mk A30
  clear A30
  obtain rfl := Option.some.inj H
  go_enter Try.func19, Try.ntmps19
  try go_wp2_with (first | ((with_reducible refine gate_dst (N := 1) rfl ?_); refine box_event ?hg (N := 1) ?hd (cs := #[.bool a0_0, .slice A0_1 l0_1.length c0_1]) (t := 25) ?hr ?_; (case hd => rfl); (case hg => rfl); (case hr => first | (go_simp; done) | (go_simp; rfl)); intro gb411 hg w4 hbox hb; have n0_ := Aside0.mk (below_step (by repeat (first | (with_reducible first | exact HB.out | apply below_alloc | apply pw_below_drewN | apply below_drew1) | exact HB.out)) hb); have n1_ := Aside0.mk (hbox); have n2_ := Aside0.mk ((by rw [hg]; exact (below_size (by repeat (first | (with_reducible first | exact HB.out | apply below_alloc | apply pw_below_drewN | apply below_drew1) | exact HB.out))) : w.heap.size ≤ gb411)); have n3_ := Aside0.mk ((by rw [hg]; exact (below_size (by repeat (first | (with_reducible first | exact HB.out | apply below_alloc | apply pw_below_drewN | apply below_drew1) | exact HB.out))) : w.heap.size ≤ gb411)); clear HB; have HB := n0_; have BK411 := n1_; have GW411 := n2_; have GE411 := n3_; clear n0_ n1_ n2_ n3_; clear hb hbox hg))
  have n0_ := Aside0.mk (blk_drew BK411.out)
  have n1_ := Aside0.mk (below_drew1 HB.out)
  clear BK411
  clear HB
  have BK411 := n0_
  have HB := n1_
  clear n0_ n1_
  refine start_ (n := 7) (S := fun w' => w'.cell? ⟨gb411, 0, none⟩ = some (.bool a0_0) ∧ w'.cell? ⟨gb411, 1, none⟩ = some (.slice A0_1 l0_1.length c0_1)) (ds := []) #[false, false, false, false, false, false, false] (by kernel_rfl) rfl rfl ⟨(blk_cell BK411.out 0).trans rfl, (blk_cell BK411.out 1).trans rfl⟩ (fun hHeld => ?_)
  generalize w4.drew = w5 at BK411 HB hHeld ⊢
  refine pure_ (i := 0) (N := some 3) (v := ?_) (a' := ?_) #[true, false, false, false, false, false, false] rfl rfl (by kernel_rfl) (fun _ _ _ h => h) (Or.inl ⟨by rfl, ?_⟩) ?_ ?_
  rotate_left
  · intro w'
    go_simp
    with_reducible rfl
  rotate_left
  · simp only [Act.put, List.setIfInBounds_toArray, List.set_cons_zero, List.set_cons_succ, i64_w, i32_w]
    rfl
  refine pure_ (i := 2) (N := some 5) (v := ?_) (a' := ?_) #[true, false, true, false, false, false, false] rfl rfl (by kernel_rfl) (fun _ _ _ h => h) (Or.inl ⟨by rfl, ?_⟩) ?_ ?_
  rotate_left
  · intro w'
    go_simp
    with_reducible rfl
  rotate_left
  · simp only [Act.put, List.setIfInBounds_toArray, List.set_cons_zero, List.set_cons_succ, i64_w, i32_w]
    rfl
  refine take_ (i := 1) (N := some 4) (v := ?_) (a' := ?_) #[true, true, true, false, false, false, false] rfl rfl (by kernel_rfl) (fun _ _ _ h => h) (Or.inl ⟨by rfl, ?_⟩) hHeld ?_ ?_
  rotate_left
  · rintro w' ⟨s0, s1⟩
    go_simp
    with_reducible rfl
  rotate_left
  · simp only [Act.put, List.setIfInBounds_toArray, List.set_cons_zero, List.set_cons_succ, i64_w, i32_w]
    rfl
  refine take_ (i := 3) (N := some 6) (v := ?_) (a' := ?_) #[true, true, true, true, false, false, false] rfl rfl (by kernel_rfl) (fun _ _ _ h => h) (Or.inl ⟨by rfl, ?_⟩) hHeld ?_ ?_
  rotate_left
  · rintro w' ⟨s0, s1⟩
    go_simp
    with_reducible rfl
  rotate_left
  · simp only [Act.put, List.setIfInBounds_toArray, List.set_cons_zero, List.set_cons_succ, i64_w, i32_w]
    rfl
  refine one_ (i := 4) (N := some 7) #[true, true, true, true, true, false, false] rfl rfl (by kernel_rfl) (by decide) (fun K hK => ?_)
  refine goes_ Try.func43 (by kernel_rfl) rfl #[.slice A0_1 l0_1.length c0_1] (by rfl) rfl rfl (by (try simp only [List.map_toArray, List.map_cons, List.map_nil]); first | done | rfl | (simp only [List.length_drop, List.length_take]; rfl)) ?_
  with_reducible refine (offcutref01_Of.calls k _ _ l0_1 t412 _ ?side1 ?side2 A2.out).mono ?_
  (case side1 => repeat (first | exact (Kd.C_below HR0_1.out HB.out) | (with_reducible refine Kd.C_alloc ?_ _) | (with_reducible refine Kd.C_drewN ?_ _) | (with_reducible refine Kd.C_drew ?_)))
  (case side2 => exact HC0_1.out)
  rintro e w6 ⟨rfl, hb⟩
  refine ⟨_, rfl, ?_⟩
  have n0_ := Aside0.mk (blk_below (g := gb411) (o := .cells #[.bool a0_0, .slice A0_1 l0_1.length c0_1] 25 (0, 0)) (by (with_reducible repeat (first | refine blk_drewN ?_ _ | refine blk_drew ?_ | refine blk_alloc ?_ _)); exact BK411.out) hb)
  have n1_ := Aside0.mk (below_step (by repeat (first | (with_reducible first | exact HB.out | apply below_alloc | apply pw_below_drewN | apply below_drew1 | refine below_set ?_ GE411.out) | exact HB.out)) hb)
  clear BK411
  clear HB
  have BK411 := n0_
  have HB := n1_
  clear n0_ n1_
  (try clear hb)
  refine hK.out _ _ ⟨(blk_cell BK411.out 0).trans rfl, (blk_cell BK411.out 1).trans rfl⟩ (fun hHeld => ?_)
  clear hK K
  refine norm_ (a' := ?_) ?_ ?_
  rotate_left
  · show Act.put _ (some 7) _ = _
    simp only [Act.put, List.setIfInBounds_toArray, List.set_cons_zero, List.set_cons_succ, i64_w, i32_w]
    rfl
  refine one_ (i := 5) (N := some 8) #[true, true, true, true, true, true, false] rfl rfl (by kernel_rfl) (by decide) (fun K hK => ?_)
  refine goes_ Try.func42 (by kernel_rfl) rfl #[.bool a0_0, .string t412] (by rfl) rfl rfl (by (try simp only [List.map_toArray, List.map_cons, List.map_nil]); first | done | rfl | (simp only [List.length_drop, List.length_take]; rfl)) ?_
  with_reducible refine (offcutref02_Made.calls a0_0 t412 t413 _ A3.out).mono ?_
  rintro e w' ⟨rfl, ⟨nd, rfl⟩⟩
  refine ⟨_, rfl, ?_⟩
  refine hK.out _ _ ⟨(blk_cell BK411.out 0).trans rfl, (blk_cell BK411.out 1).trans rfl⟩ (fun hHeld => ?_)
  clear hK K
  refine norm_ (a' := ?_) ?_ ?_
  rotate_left
  · show Act.put _ (some 8) _ = _
    simp only [Act.put, List.setIfInBounds_toArray, List.set_cons_zero, List.set_cons_succ, i64_w, i32_w]
    rfl
  refine pure_ (i := 6) (N := some 2) (v := ?_) (a' := ?_) #[true, true, true, true, true, true, true] rfl rfl (by kernel_rfl) (fun _ _ _ h => h) (Or.inl ⟨by rfl, ?_⟩) ?_ ?_
  rotate_left
  · intro w'
    go_simp
    with_reducible rfl
  rotate_left
  · simp only [Act.put, List.setIfInBounds_toArray, List.set_cons_zero, List.set_cons_succ, i64_w, i32_w]
    rfl
  refine done_ (by kernel_rfl) ?_
  try go_wp2
  go_ret
  exact ⟨by first | rfl | (simp [errW_none, errW_some] <;> rfl) | (simp [*, errW_none, errW_some] <;> rfl), by repeat (first | (with_reducible first | exact HB.out | apply below_alloc | apply pw_below_drewN | apply below_drew1 | refine below_set ?_ GE411.out) | exact HB.out)⟩

theorem offcutlaw02_of.ev {m : Bool} {l : List Int} {z : Int} {K : Nat} (h : Zn.Is m l z K) (hK : K < 1000000) : Ev (fun k => offcutlaw02_of.f k m l) (Zn.tz z) := by
  have hl := h.len
  have O := offcutref01_Of.ev h.ws (by omega)
  have la := Dec.dc_len32 (n := z.natAbs) (k := K + 1) (by omega) (Num.le_pow h.lt (by omega))
  rw [h.abs] at la
  have M := offcutref02_Made.sem m (Num.nv l) (by omega)
  rw [h.val] at M
  unfold offcutlaw02_of.f
  exact Ev.bind O (Dec.val (fun _ => M) (Ev.now _))

end Go.Proofs.Ytjpkljkkcbaohaa.PR

end
section
namespace Go.Proofs.Ytjpkljkkcbaohaa.PR
open Go.RowKit Go.Proofs.YtjpkljkkcbaohaaW.PrintWords Go.Proofs.YtjpkljkkcbaohaaW.PrintLast Go.Proofs.YtjpkljkkcbaohaaW.PrintMore
attribute [local go_sem] max2_int min2_int max_two min_two max_three min_three max_four min_four   -- for this text's walks alone
set_option linter.unusedVariables false
set_option linter.unusedSimpArgs false

/-! ### offcutlaw02_is: function 20 -/
def offcutlaw02_is.f (k : Nat) (a0_0 : Bool) (l0_1 : List Int) (a1 : ByteArray) : Option (Bool) := (whole_Right.f a0_0 l0_1).bind fun t415 => (if t415 = true then ((offcutlaw02_of.f k a0_0 l0_1).bind fun t416 => (some (t416.toList == a1.toList))) else (some false))
theorem offcutlaw02_is.mono : ∀ a0 a1 a2 k, LeO (offcutlaw02_is.f k a0 a1 a2) (offcutlaw02_is.f (k + 1) a0 a1 a2) := by
  intro a0 a1 a2 k
  unfold offcutlaw02_is.f
  repeat' first
      | (with_reducible exact offcutlaw02_of.mono _ _ _)
      | (with_reducible exact LeO.refl _)
      | (with_reducible exact LeO.none _)
      | (with_reducible refine LeO.ite ?_ ?_)
      | (with_reducible refine LeO.bind ?_ (fun _ => ?_))
      | exact offcutlaw02_of.mono _ _ _
      | exact LeO.none _
      | refine LeO.ite ?_ ?_
      | refine LeO.bind ?_ (fun _ => ?_)
set_option maxHeartbeats 8000000 in
set_option maxRecDepth 100000 in
theorem offcutlaw02_is.calls (k : Nat) (a0_0 : Bool) (A0_1 : Option Addr) (c0_1 : Nat) (l0_1 : List Int) (a1 : ByteArray) (r : Bool) (w : World) (hr0_1 : Kd.C (Kd.int .u32) w A0_1 l0_1.length l0_1) (hc0_1 : l0_1.length ≤ c0_1) (h : offcutlaw02_is.f k a0_0 l0_1 a1 = some r) :
    Calls Try.prog 20 #[.agg #[.bool a0_0, .slice A0_1 l0_1.length c0_1], .string a1] w fun e w' => e = .returned (.bool r) ∧ Below w.heap.size w w' := by
  have hu25 := Try.underlying25
  have HR0_1 := Aside0.mk hr0_1
  have HC0_1 := Aside0.mk hc0_1
  clear hr0_1 hc0_1
  have HB := Aside0.mk (Below.refl w.heap.size w)
  have H : ((whole_Right.f a0_0 l0_1).bind fun t415 => (if t415 = true then ((offcutlaw02_of.f k a0_0 l0_1).bind fun t416 => (some (t416.toList == a1.toList))) else (some false))) = some r := h
  clear h
  replace H := Option.bind_eq_some_iff.mp H
  obtain ⟨t415, A30, H⟩ := H
  replace H : (if t415 = true then ((offcutlaw02_of.f k a0_0 l0_1).bind fun t416 => (some (t416.toList == a1.toList))) else (some false)) = some r := H
  have A3 := Aside0.mk A30
  clear A30
  by_cases c4 : t415 = true
  · subst c4
    have H1 : ((offcutlaw02_of.f k a0_0 l0_1).bind fun t416 => (some (t416.toList == a1.toList))) = some r := by rw [if_pos rfl] at H; exact H
    clear H
    have H := H1
    clear H1
    replace H := Option.bind_eq_some_iff.mp H
    obtain ⟨t416, A50, H⟩ := H
    replace H : (some (t416.toList == a1.toList)) = some r := H
    have A5 := Aside0.mk A50
    clear A50
    obtain rfl := Option.some.inj H
    go_enter Try.func20, Try.ntmps20
    go_wp2_with (first | ((with_reducible refine gate_dst (N := 2) rfl ?_); refine box_event ?hg (N := 2) ?hd (cs := #[.bool a0_0, .slice A0_1 l0_1.length c0_1]) (t := 25) ?hr ?_; (case hd => rfl); (case hg => rfl); (case hr => first | (go_simp; done) | (go_simp; rfl)); intro gb414 hg w6 hbox hb; have n0_ := Aside0.mk (below_step (by repeat (first | (with_reducible first | exact HB.out | apply below_alloc | apply pw_below_drewN | apply below_drew1) | exact HB.out)) hb); have n1_ := Aside0.mk (hbox); have n2_ := Aside0.mk ((by rw [hg]; exact (below_size (by repeat (first | (with_reducible first | exact HB.out | apply below_alloc | apply pw_below_drewN | apply below_drew1) | exact HB.out))) : w.heap.size ≤ gb414)); have n3_ := Aside0.mk ((by rw [hg]; exact (below_size (by repeat (first | (with_reducible first | exact HB.out | apply below_alloc | apply pw_below_drewN | apply below_drew1) | exact HB.out))) : w.heap.size ≤ gb414)); clear HB; have HB := n0_; have BK414 := n1_; have GW414 := n2_; have GE414 := n3_; clear n0_ n1_ n2_ n3_; clear hb hbox hg; have hcz7_0 : w6.cell? ⟨gb414, 0, none⟩ = some (.bool a0_0) := (blk_cell BK414.out 0).trans rfl; have hcz7_1 : w6.cell? ⟨gb414, 1, none⟩ = some (.slice A0_1 l0_1.length c0_1) := (blk_cell BK414.out 1).trans rfl; have hfz7_0 := blk_frozen BK414.out 0; have hfz7_1 := blk_frozen BK414.out 1) | ((with_reducible refine gate_callee (f := 32) rfl ?_); refine goesL_ (some 6) rfl rfl Try.func32 (by kernel_rfl) rfl #[.agg #[.bool a0_0, .slice A0_1 l0_1.length c0_1]] rfl (by (try simp only [List.map_toArray, List.map_cons, List.map_nil]); first | done | rfl | (simp only [List.length_drop, List.length_take]; rfl)) ?_; (with_reducible refine (whole_Right.calls a0_0 _ _ l0_1 true _ ?side1 ?side2 A3.out).mono ?_); (case side1 => repeat (first | exact (Kd.C_below HR0_1.out HB.out) | (with_reducible refine Kd.C_alloc ?_ _) | (with_reducible refine Kd.C_drewN ?_ _) | (with_reducible refine Kd.C_drew ?_))); (case side2 => exact HC0_1.out); rintro e w8 ⟨rfl, hb⟩; refine ⟨_, rfl, ?_⟩; have n0_ := Aside0.mk (blk_below (g := gb414) (o := .cells #[.bool a0_0, .slice A0_1 l0_1.length c0_1] 25 (0, 0)) (by (with_reducible repeat (first | refine blk_drewN ?_ _ | refine blk_drew ?_ | refine blk_alloc ?_ _)); exact BK414.out) hb); have n1_ := Aside0.mk (below_step (by repeat (first | (with_reducible first | exact HB.out | apply below_alloc | apply pw_below_drewN | apply below_drew1 | refine below_set ?_ GE414.out) | exact HB.out)) hb); clear BK414; clear HB; have BK414 := n0_; have HB := n1_; clear n0_ n1_; (try clear hb); have hcz9_0 : w8.cell? ⟨gb414, 0, none⟩ = some (.bool a0_0) := (blk_cell BK414.out 0).trans rfl; have hcz9_1 : w8.cell? ⟨gb414, 1, none⟩ = some (.slice A0_1 l0_1.length c0_1) := (blk_cell BK414.out 1).trans rfl; have hfz9_0 := blk_frozen BK414.out 0; have hfz9_1 := blk_frozen BK414.out 1) | (go_at_call 19; (with_reducible refine (offcutlaw02_of.calls k a0_0 _ _ l0_1 t416 _ ?side1 ?side2 A5.out).mono ?_); (case side1 => repeat (first | exact (Kd.C_below HR0_1.out HB.out) | (with_reducible refine Kd.C_alloc ?_ _) | (with_reducible refine Kd.C_drewN ?_ _) | (with_reducible refine Kd.C_drew ?_))); (case side2 => exact HC0_1.out); rintro e w10 ⟨rfl, hb⟩; have n0_ := Aside0.mk (blk_below (g := gb414) (o := .cells #[.bool a0_0, .slice A0_1 l0_1.length c0_1] 25 (0, 0)) (by (with_reducible repeat (first | refine blk_drewN ?_ _ | refine blk_drew ?_ | refine blk_alloc ?_ _)); exact BK414.out) hb); have n1_ := Aside0.mk (below_step (by repeat (first | (with_reducible first | exact HB.out | apply below_alloc | apply pw_below_drewN | apply below_drew1 | refine below_set ?_ GE414.out) | exact HB.out)) hb); clear BK414; clear HB; have BK414 := n0_; have HB := n1_; clear n0_ n1_; (try clear hb)))
    go_ret
    exact ⟨by first | rfl | (simp [errW_none, errW_some] <;> rfl) | (simp [*, errW_none, errW_some] <;> rfl), by repeat (first | (with_reducible first | exact HB.out | apply below_alloc | apply pw_below_drewN | apply below_drew1 | refine below_set ?_ GE414.out) | exact HB.out)⟩
  · replace c4 := Bool.eq_false_iff.mpr c4
    subst c4
    have H1 : (some false) = some r := by rw [if_neg (show ¬ (false = true) by decide)] at H; exact H
    clear H
    have H := H1
    clear H1
    obtain rfl := Option.some.inj H
    go_enter Try.func20, Try.ntmps20
    go_wp2_with (first | ((with_reducible refine gate_dst (N := 2) rfl ?_); refine box_event ?hg (N := 2) ?hd (cs := #[.bool a0_0, .slice A0_1 l0_1.length c0_1]) (t := 25) ?hr ?_; (case hd => rfl); (case hg => rfl); (case hr => first | (go_simp; done) | (go_simp; rfl)); intro gb414 hg w11 hbox hb; have n0_ := Aside0.mk (below_step (by repeat (first | (with_reducible first | exact HB.out | apply below_alloc | apply pw_below_drewN | apply below_drew1) | exact HB.out)) hb); have n1_ := Aside0.mk (hbox); have n2_ := Aside0.mk ((by rw [hg]; exact (below_size (by repeat (first | (with_reducible first | exact HB.out | apply below_alloc | apply pw_below_drewN | apply below_drew1) | exact HB.out))) : w.heap.size ≤ gb414)); have n3_ := Aside0.mk ((by rw [hg]; exact (below_size (by repeat (first | (with_reducible first | exact HB.out | apply below_alloc | apply pw_below_drewN | apply below_drew1) | exact HB.out))) : w.heap.size ≤ gb414)); clear HB; have HB := n0_; have BK414 := n1_; have GW414 := n2_; have GE414 := n3_; clear n0_ n1_ n2_ n3_; clear hb hbox hg; have hcz12_0 : w11.cell? ⟨gb414, 0, none⟩ = some (.bool a0_0) := (blk_cell BK414.out 0).trans rfl; have hcz12_1 : w11.cell? ⟨gb414, 1, none⟩ = some (.slice A0_1 l0_1.length c0_1) := (blk_cell BK414.out 1).trans rfl; have hfz12_0 := blk_frozen BK414.out 0; have hfz12_1 := blk_frozen BK414.out 1) | ((with_reducible refine gate_callee (f := 32) rfl ?_); refine goesL_ (some 6) rfl rfl Try.func32 (by kernel_rfl) rfl #[.agg #[.bool a0_0, .slice A0_1 l0_1.length c0_1]] rfl (by (try simp only [List.map_toArray, List.map_cons, List.map_nil]); first | done | rfl | (simp only [List.length_drop, List.length_take]; rfl)) ?_; (with_reducible refine (whole_Right.calls a0_0 _ _ l0_1 false _ ?side1 ?side2 A3.out).mono ?_); (case side1 => repeat (first | exact (Kd.C_below HR0_1.out HB.out) | (with_reducible refine Kd.C_alloc ?_ _) | (with_reducible refine Kd.C_drewN ?_ _) | (with_reducible refine Kd.C_drew ?_))); (case side2 => exact HC0_1.out); rintro e w13 ⟨rfl, hb⟩; refine ⟨_, rfl, ?_⟩; have n0_ := Aside0.mk (blk_below (g := gb414) (o := .cells #[.bool a0_0, .slice A0_1 l0_1.length c0_1] 25 (0, 0)) (by (with_reducible repeat (first | refine blk_drewN ?_ _ | refine blk_drew ?_ | refine blk_alloc ?_ _)); exact BK414.out) hb); have n1_ := Aside0.mk (below_step (by repeat (first | (with_reducible first | exact HB.out | apply below_alloc | apply pw_below_drewN | apply below_drew1 | refine below_set ?_ GE414.out) | exact HB.out)) hb); clear BK414; clear HB; have BK414 := n0_; have HB := n1_; clear n0_ n1_; (try clear hb)))
    go_ret
    exact ⟨by first | rfl | (simp [errW_none, errW_some] <;> rfl) | (simp [*, errW_none, errW_some] <;> rfl), by repeat (first | (with_reducible first | exact HB.out | apply below_alloc | apply pw_below_drewN | apply below_drew1 | refine below_set ?_ GE414.out) | exact HB.out)⟩

theorem offcutlaw02_is.ev {z y : Int} {K : Nat} (h : z.natAbs < 2 ^ (32 * K)) (hK : K < 1000000) : Ev (fun k => offcutlaw02_is.f k (Zn.zd z).1 (Zn.zd z).2 (Zn.tz y)) (decide (z = y)) := by
  unfold offcutlaw02_is.f
  refine Dec.val (fun _ => whole_Right.zd h hK) (Dec.yes rfl (Ev.bind (offcutlaw02_of.ev (Zn.Is.zd h) hK) ?_))
  rw [← Zn.tz_beq]
  exact Ev.now _

end Go.Proofs.Ytjpkljkkcbaohaa.PR

end
