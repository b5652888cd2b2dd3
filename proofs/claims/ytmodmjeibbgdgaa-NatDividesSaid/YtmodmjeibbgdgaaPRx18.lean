-- PRINTED by print.py (a twelfth state) out of the translation. Not trusted: Lean checks it.
import Derived.Test.YtmodmjeibbgdgaaDec
import Derived.Test.YtmodmjeibbgdgaaPRx0
namespace Go.Proofs.Ytmodmjeibbgdgaa.PR
open Go.RowKit Go.Proofs.YtmodmjeibbgdgaaW.PrintWords Go.Proofs.YtmodmjeibbgdgaaW.PrintLast Go.Proofs.YtmodmjeibbgdgaaW.PrintMore
attribute [local go_sem] max2_int min2_int max_two min_two max_three min_three max_four min_four   -- for this text's walks alone
set_option linter.unusedVariables false
set_option linter.unusedSimpArgs false

/-! ### offcutref01_cut: function 37 -/
def offcutref01_cut.l0 : Nat → ByteArray → Option (ByteArray)
  | 0, _ => none
  | k + 1, x0 => if (x0.size : Int) > 1 then (if 0 < (x0.size : Int) then (if (bt x0 0) = 48 then (if 1 ≤ (x0.size : Int) then (offcutref01_cut.l0 k (x0.extract 1 x0.size)) else (none)) else (if x0.toList = ([] : List UInt8) then (some (⟨#[48]⟩ : ByteArray)) else (some x0))) else (none)) else (if x0.toList = ([] : List UInt8) then (some (⟨#[48]⟩ : ByteArray)) else (some x0))
def offcutref01_cut.f (k : Nat) (a0 : ByteArray) : Option (ByteArray) := offcutref01_cut.l0 k a0
theorem offcutref01_cut.mono_l : ∀ k, (∀ y0, LeO (offcutref01_cut.l0 k y0) (offcutref01_cut.l0 (k + 1) y0))
  | 0 => fun _ r h => by simp [offcutref01_cut.l0] at h
  | k + 1 => by
    have ih0 := offcutref01_cut.mono_l k
    · intro y0
      unfold offcutref01_cut.l0
      repeat' first
      | (with_reducible exact ih0 _)
      | (with_reducible exact LeO.refl _)
      | (with_reducible exact LeO.none _)
      | (with_reducible refine LeO.ite ?_ ?_)
      | (with_reducible refine LeO.bind ?_ (fun _ => ?_))
      | exact ih0 _
      | exact LeO.none _
      | refine LeO.ite ?_ ?_
      | refine LeO.bind ?_ (fun _ => ?_)
theorem offcutref01_cut.mono : ∀ a0 k, LeO (offcutref01_cut.f k a0) (offcutref01_cut.f (k + 1) a0) := by
  intro a0 k
  have ih0 := offcutref01_cut.mono_l k
  unfold offcutref01_cut.f
  repeat' first
      | (with_reducible exact ih0 _)
      | (with_reducible exact LeO.refl _)
      | (with_reducible exact LeO.none _)
      | (with_reducible refine LeO.ite ?_ ?_)
      | (with_reducible refine LeO.bind ?_ (fun _ => ?_))
      | exact ih0 _
      | exact LeO.none _
      | refine LeO.ite ?_ ?_
      | refine LeO.bind ?_ (fun _ => ?_)
set_option maxHeartbeats 8000000 in
set_option maxRecDepth 100000 in
theorem offcutref01_cut.calls (k : Nat) (a0 : ByteArray) (r : ByteArray) (w : World) (h : offcutref01_cut.f k a0 = some r) :
    Calls Try.prog 37 #[.string a0] w fun e w' => e = .returned (.string r) ∧ Drawn0 w w' := by
  have H : (offcutref01_cut.l0 k a0) = some r := h
  clear h
  have H' := Aside0.mk H
  clear H
  go_enter Try.func37, Try.ntmps37
  go_wp2
  go_loopg [0] k (fun kq v0 w' => ∃ (x0_1 : ByteArray), v0 = .string x0_1 ∧ Aside0 (offcutref01_cut.l0 kq x0_1 = some r) ∧ Aside0 (kq ≤ k) ∧ Drawn0 w w')
  case atStart => exact ⟨(a0), (by first | rfl | (simp; done) | (simp [*]; done)), H', ⟨Nat.le_refl _⟩, by repeat (first | exact Drawn0.refl _ | apply Drawn0.step)⟩
  case round =>
    clear H'
    obtain ⟨x0_1, rfl, HA, HK1, ⟨m1, rfl⟩⟩ := hrel
    cases gk with
    | zero => exact absurd HA.out (by simp [offcutref01_cut.l0])
    | succ k1 =>
      have H := HA.out
      clear HA
      simp only [offcutref01_cut.l0] at H
      by_cases c2 : (x0_1.size : Int) > 1
      · rw [if_pos c2] at H
        have c2b0 : decide (1 < (x0_1.size : Int)) = true := decide_eq_true c2
        have c2b1 : decide (1 < x0_1.size) = true := decide_eq_true (by omega)
        clear c2
        by_cases c3 : 0 < (x0_1.size : Int)
        · rw [if_pos c3] at H
          have c3b0 : decide (0 < (x0_1.size : Int)) = true := decide_eq_true c3
          have c3b1 : decide (0 < x0_1.size) = true := decide_eq_true (by omega)
          clear c3
          by_cases c5 : (bt x0_1 0) = 48
          · rw [if_pos c5] at H
            have c5b0 : ((bt x0_1 0) == 48) = true := beq_iff_eq.mpr c5
            have c5b1 : ((bt x0_1 0) != 48) = false := bne_eq_false_iff_eq.mpr c5
            clear c5
            by_cases c6 : 1 ≤ (x0_1.size : Int)
            · rw [if_pos c6] at H
              have c6b0 := eq_true c6
              have c6b1 : decide (1 ≤ (x0_1.size : Int)) = true := decide_eq_true c6
              clear c6
              have H' := Aside0.mk H
              clear H
              have p4 : 0 ≤ (0 : Int) := (by omega)
              have q4 : 0 < x0_1.size := (by have : (0 : Int) < (x0_1.size : Int) := of_decide_eq_true (by first | (with_reducible assumption) | assumption); omega)
              have hx4 : ∀ h : 0 < x0_1.size, ((x0_1[0]'h).toNat : Int) = bt x0_1 0 := bt_at x0_1 0
              clear p4
              have qi4 : (0 < (x0_1.size : Int)) = True := eq_true (of_decide_eq_true (by first | (with_reducible assumption) | assumption))
              replace q4 := eq_true q4
              go_wp2
              go_roundg k1
              case measure => have := HK1.out; omega
              case rel => exact ⟨(x0_1.extract 1 x0_1.size), (by first | rfl | (simp; done) | (simp [*]; done)), H', ⟨by have := HK1.out; omega⟩, by repeat (first | exact Drawn0.refl _ | apply Drawn0.step)⟩
            · rw [if_neg c6] at H
              exact absurd H (by simp)
          · rw [if_neg c5] at H
            have c5b0 : ((bt x0_1 0) == 48) = false := beq_eq_false_iff_ne.mpr c5
            have c5b1 : ((bt x0_1 0) != 48) = true := bne_iff_ne.mpr c5
            by_cases c7 : x0_1.toList = ([] : List UInt8)
            · rw [if_pos c7] at H
              have c7b0 : (x0_1.toList == ([] : List UInt8)) = true := beq_iff_eq.mpr c7
              have c7b1 : (x0_1.toList != ([] : List UInt8)) = false := bne_eq_false_iff_eq.mpr c7
              clear c7
              obtain rfl := Option.some.inj H
              have p4 : 0 ≤ (0 : Int) := (by omega)
              have q4 : 0 < x0_1.size := (by have : (0 : Int) < (x0_1.size : Int) := of_decide_eq_true (by first | (with_reducible assumption) | assumption); omega)
              have hx4 : ∀ h : 0 < x0_1.size, ((x0_1[0]'h).toNat : Int) = bt x0_1 0 := bt_at x0_1 0
              clear p4
              have qi4 : (0 < (x0_1.size : Int)) = True := eq_true (of_decide_eq_true (by first | (with_reducible assumption) | assumption))
              replace q4 := eq_true q4
              go_wp2
              go_ret
              exact ⟨by first | rfl | (simp; done) | (simp [*]; done), by repeat (first | exact Drawn0.refl _ | apply Drawn0.step)⟩
            · rw [if_neg c7] at H
              have c7b0 : (x0_1.toList == ([] : List UInt8)) = false := beq_eq_false_iff_ne.mpr c7
              have c7b1 : (x0_1.toList != ([] : List UInt8)) = true := bne_iff_ne.mpr c7
              obtain rfl := Option.some.inj H
              have p4 : 0 ≤ (0 : Int) := (by omega)
              have q4 : 0 < x0_1.size := (by have : (0 : Int) < (x0_1.size : Int) := of_decide_eq_true (by first | (with_reducible assumption) | assumption); omega)
              have hx4 : ∀ h : 0 < x0_1.size, ((x0_1[0]'h).toNat : Int) = bt x0_1 0 := bt_at x0_1 0
              clear p4
              have qi4 : (0 < (x0_1.size : Int)) = True := eq_true (of_decide_eq_true (by first | (with_reducible assumption) | assumption))
              replace q4 := eq_true q4
              go_wp2
              go_ret
              exact ⟨by first | rfl | (simp; done) | (simp [*]; done), by repeat (first | exact Drawn0.refl _ | apply Drawn0.step)⟩
        · rw [if_neg c3] at H
          exact absurd H (by simp)
      · rw [if_neg c2] at H
        have c2b0 : decide (1 < (x0_1.size : Int)) = false := decide_eq_false c2
        have c2b1 : decide (1 < x0_1.size) = false := decide_eq_false (by omega)
        clear c2
        by_cases c8 : x0_1.toList = ([] : List UInt8)
        · rw [if_pos c8] at H
          have c8b0 : (x0_1.toList == ([] : List UInt8)) = true := beq_iff_eq.mpr c8
          have c8b1 : (x0_1.toList != ([] : List UInt8)) = false := bne_eq_false_iff_eq.mpr c8
          clear c8
          obtain rfl := Option.some.inj H
          go_wp2
          go_ret
          exact ⟨by first | rfl | (simp; done) | (simp [*]; done), by repeat (first | exact Drawn0.refl _ | apply Drawn0.step)⟩
        · rw [if_neg c8] at H
          have c8b0 : (x0_1.toList == ([] : List UInt8)) = false := beq_eq_false_iff_ne.mpr c8
          have c8b1 : (x0_1.toList != ([] : List UInt8)) = true := bne_iff_ne.mpr c8
          obtain rfl := Option.some.inj H
          go_wp2
          go_ret
          exact ⟨by first | rfl | (simp; done) | (simp [*]; done), by repeat (first | exact Drawn0.refl _ | apply Drawn0.step)⟩

theorem offcutref01_cut.ev_n (n : Nat) : ∀ {l : List Nat}, l.length = n → Dec.Ds l → Ev (fun k => offcutref01_cut.f k (Dec.tx l)) (Dec.dec (Dec.dv l)) := by
  induction n with
  | zero =>
    intro l hl h
    obtain rfl : l = [] := List.eq_nil_of_length_eq_zero hl
    refine Ev.step (f := fun _ => some (Dec.dec (Dec.dv []))) (fun k => ?_) (Ev.now _)
    show offcutref01_cut.l0 (k + 1) _ = _
    rw [offcutref01_cut.l0, Dec.tx_size, if_neg (by simp), if_pos (by rw [Dec.tx_toList]; rfl), ← Dec.dec_zero]
    rfl
  | succ n ih =>
    intro l hl h
    rcases List.eq_nil_or_concat l with rfl | ⟨l', d, rfl⟩
    · simp at hl
    · rw [List.concat_eq_append] at hl h ⊢
      have hd : d < 10 := h.right.head
      have hn : l'.length = n := by simpa using hl
      have hnn : (Dec.tx (l' ++ [d])).toList ≠ [] := by rw [Dec.tx_toList]; simp
      have hbt := Dec.bt_tx h 0 (by simp)
      rw [show (l' ++ [d]).length - 1 - 0 = l'.length from by simp] at hbt
      rw [show (l' ++ [d]).getD l'.length 0 = d from by simp] at hbt
      by_cases h0 : n = 0
      · obtain rfl : l' = [] := List.eq_nil_of_length_eq_zero (by omega)
        refine Ev.step (f := fun _ => some (Dec.tx ([] ++ [d]))) (fun k => ?_) ?_
        · show offcutref01_cut.l0 (k + 1) _ = _
          rw [offcutref01_cut.l0, Dec.tx_size, if_neg (by simp), if_neg hnn]
        · by_cases hd0 : d = 0
          · subst hd0
            exact Ev.now _
          · unfold Dec.dec
            rw [Dec.dc_snoc Dec.Ds.nil hd hd0]
            exact Ev.now _
      · by_cases hd0 : d = 0
        · subst hd0
          refine Ev.step (f := fun k => offcutref01_cut.f k (Dec.tx l')) (fun k => ?_) ?_
          · show offcutref01_cut.l0 (k + 1) _ = offcutref01_cut.l0 k _
            rw [offcutref01_cut.l0, Dec.tx_tail, Dec.tx_size, if_pos (by simp <;> omega), if_pos (by simp <;> omega), if_pos (by rw [← Int.natCast_zero, hbt] <;> rfl), if_pos (by simp <;> omega)]
          · rw [Dec.dv_snoc, Nat.mul_zero, Nat.add_zero]
            exact ih hn h.left
        · refine Ev.step (f := fun _ => some (Dec.tx (l' ++ [d]))) (fun k => ?_) ?_
          · show offcutref01_cut.l0 (k + 1) _ = _
            rw [offcutref01_cut.l0, Dec.tx_size, if_pos (by simp <;> omega), if_pos (by simp <;> omega), if_neg (by rw [← Int.natCast_zero, hbt] <;> omega), if_neg hnn]
          · unfold Dec.dec
            rw [Dec.dc_snoc h.left hd hd0]
            exact Ev.now _
theorem offcutref01_cut.ev {l : List Nat} (h : Dec.Ds l) : Ev (fun k => offcutref01_cut.f k (Dec.tx l)) (Dec.dec (Dec.dv l)) := offcutref01_cut.ev_n _ rfl h

end Go.Proofs.Ytmodmjeibbgdgaa.PR
