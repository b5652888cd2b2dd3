/- Several functions' printed texts in one file. -/
import Derived.Test.YtjpkljkkcbaohaaDec
import Derived.Test.YtjpkljkkcbaohaaPRg0
import Derived.Test.YtjpkljkkcbaohaaPRg32
import Derived.Test.YtjpkljkkcbaohaaPRg41
section
namespace Go.Proofs.Ytjpkljkkcbaohaa.PR
open Go.RowKit Go.Proofs.YtjpkljkkcbaohaaW.PrintWords Go.Proofs.YtjpkljkkcbaohaaW.PrintLast Go.Proofs.YtjpkljkkcbaohaaW.PrintMore
attribute [local go_sem] max2_int min2_int max_two min_two max_three min_three max_four min_four   -- for this text's walks alone
set_option linter.unusedVariables false
set_option linter.unusedSimpArgs false

/-! ### offcutref01_DivMod: function 84 -/
mutual
def offcutref01_DivMod.l0 : Nat → ByteArray → ByteArray → ByteArray → ByteArray → Int → Option (ByteArray × ByteArray)
  | 0, _, _, _, _, _ => none
  | k + 1, x0, x1, x6, x7, x8 => if x8 < (x0.size : Int) then (if 0 ≤ x8 then (if x8 ≤ (wrap64 (x8 + 1)) then (if (wrap64 (x8 + 1)) ≤ (x0.size : Int) then (if x7.size + (x0.extract (x8 : Int).toNat ((wrap64 (x8 + 1)) : Int).toNat).size ≤ 9223372036854775807 then ((offcutref01_cut.f k (x7 ++ (x0.extract (x8 : Int).toNat ((wrap64 (x8 + 1)) : Int).toNat))).bind fun t510 => (offcutref01_DivMod.l1 k x0 x1 x6 t510 x8 0)) else (none)) else (none)) else (none)) else (none)) else ((offcutref01_cut.f k x6).bind fun t509 => (some (t509, x7)))
def offcutref01_DivMod.l1 : Nat → ByteArray → ByteArray → ByteArray → ByteArray → Int → Int → Option (ByteArray × ByteArray)
  | 0, _, _, _, _, _, _ => none
  | k + 1, x0, x1, x6, x7, x8, x9 => (offcutref01_Less.f x7 x1).bind fun t511 => (if t511 = true then ((offcutref01_sign.f x9).bind fun t512 => (if x6.size + t512.size ≤ 9223372036854775807 then (offcutref01_DivMod.l0 k x0 x1 (x6 ++ t512) x7 (wrap64 (x8 + 1))) else (none))) else ((offcutref01_Sub.f k x7 x1).bind fun t513 => (offcutref01_DivMod.l1 k x0 x1 x6 t513 x8 (wrap64 (x9 + 1)))))
end
def offcutref01_DivMod.f (k : Nat) (a0 : ByteArray) (a1 : ByteArray) : Option (ByteArray × ByteArray) := offcutref01_DivMod.l0 k a0 a1 (⟨#[]⟩ : ByteArray) (⟨#[48]⟩ : ByteArray) 0
theorem offcutref01_DivMod.mono_l : ∀ k, (∀ y0 y1 y2 y3 y4, LeO (offcutref01_DivMod.l0 k y0 y1 y2 y3 y4) (offcutref01_DivMod.l0 (k + 1) y0 y1 y2 y3 y4)) ∧ (∀ y0 y1 y2 y3 y4 y5, LeO (offcutref01_DivMod.l1 k y0 y1 y2 y3 y4 y5) (offcutref01_DivMod.l1 (k + 1) y0 y1 y2 y3 y4 y5))
  | 0 => ⟨fun _ _ _ _ _ r h => by simp [offcutref01_DivMod.l0] at h, fun _ _ _ _ _ _ r h => by simp [offcutref01_DivMod.l1] at h⟩
  | k + 1 => by
    obtain ⟨ih0, ih1⟩ := offcutref01_DivMod.mono_l k
    refine ⟨?_, ?_⟩
    · intro y0 y1 y2 y3 y4
      unfold offcutref01_DivMod.l0
      repeat' first
      | (with_reducible exact ih0 _ _ _ _ _)
      | (with_reducible exact ih1 _ _ _ _ _ _)
      | (with_reducible exact offcutref01_Sub.mono _ _ _)
      | (with_reducible exact offcutref01_cut.mono _ _)
      | (with_reducible exact LeO.refl _)
      | (with_reducible exact LeO.none _)
      | (with_reducible refine LeO.ite ?_ ?_)
      | (with_reducible refine LeO.bind ?_ (fun _ => ?_))
      | exact LeO.none _
      | refine LeO.ite ?_ ?_
      | refine LeO.bind ?_ (fun _ => ?_)
    · intro y0 y1 y2 y3 y4 y5
      unfold offcutref01_DivMod.l1
      repeat' first
      | (with_reducible exact ih0 _ _ _ _ _)
      | (with_reducible exact ih1 _ _ _ _ _ _)
      | (with_reducible exact offcutref01_Sub.mono _ _ _)
      | (with_reducible exact offcutref01_cut.mono _ _)
      | (with_reducible exact LeO.refl _)
      | (with_reducible exact LeO.none _)
      | (with_reducible refine LeO.ite ?_ ?_)
      | (with_reducible refine LeO.bind ?_ (fun _ => ?_))
      | exact LeO.none _
      | refine LeO.ite ?_ ?_
      | refine LeO.bind ?_ (fun _ => ?_)
theorem offcutref01_DivMod.mono : ∀ a0 a1 k, LeO (offcutref01_DivMod.f k a0 a1) (offcutref01_DivMod.f (k + 1) a0 a1) := by
  intro a0 a1 k
  obtain ⟨ih0, ih1⟩ := offcutref01_DivMod.mono_l k
  unfold offcutref01_DivMod.f
  repeat' first
      | (with_reducible exact ih0 _ _ _ _ _)
      | (with_reducible exact ih1 _ _ _ _ _ _)
      | (with_reducible exact offcutref01_Sub.mono _ _ _)
      | (with_reducible exact offcutref01_cut.mono _ _)
      | (with_reducible exact LeO.refl _)
      | (with_reducible exact LeO.none _)
      | (with_reducible refine LeO.ite ?_ ?_)
      | (with_reducible refine LeO.bind ?_ (fun _ => ?_))
      | exact LeO.none _
      | refine LeO.ite ?_ ?_
      | refine LeO.bind ?_ (fun _ => ?_)
set_option maxHeartbeats 8000000 in
set_option maxRecDepth 100000 in
theorem offcutref01_DivMod.calls (k : Nat) (a0 : ByteArray) (a1 : ByteArray) (r1 : ByteArray) (r2 : ByteArray) (w : World) (h : offcutref01_DivMod.f k a0 a1 = some (r1, r2)) :
    Calls Try.prog 84 #[.string a0, .string a1] w fun e w' => e = .returned (.tuple #[.string r1, .string r2]) ∧ Drawn0 w w' := by
  have H : (offcutref01_DivMod.l0 k a0 a1 (⟨#[]⟩ : ByteArray) (⟨#[48]⟩ : ByteArray) 0) = some (r1, r2) := h
  clear h
  have H' := Aside0.mk H
  clear H
  go_enter Try.func84, Try.ntmps84
  go_wp2
  go_loopg [6, 7, 8] k (fun kq v6 v7 v8 w' => ∃ (x6_1 : ByteArray) (x7_1 : ByteArray) (x8_1 : Int), v6 = .string x6_1 ∧ v7 = .string x7_1 ∧ v8 = .int .i64 x8_1 ∧ Aside0 (offcutref01_DivMod.l0 kq a0 a1 x6_1 x7_1 x8_1 = some (r1, r2)) ∧ Aside0 (kq ≤ k) ∧ Drawn0 w w')
  case atStart => exact ⟨((⟨#[]⟩ : ByteArray)), ((⟨#[48]⟩ : ByteArray)), (0), (by first | rfl | (simp; done) | (simp [*]; done)), (by first | rfl | (simp; done) | (simp [*]; done)), (by first | rfl | (simp; done) | (simp [*]; done)), H', ⟨Nat.le_refl _⟩, by repeat (first | exact Drawn0.refl _ | apply Drawn0.step)⟩
  case round =>
    clear H'
    try clear p2
    obtain ⟨x6_1, x7_1, x8_1, rfl, rfl, rfl, HA, HK1, ⟨m1, rfl⟩⟩ := hrel
    cases gk with
    | zero => exact absurd HA.out (by simp [offcutref01_DivMod.l0])
    | succ k1 =>
      have H := HA.out
      clear HA
      simp only [offcutref01_DivMod.l0] at H
      by_cases c3 : x8_1 < (a0.size : Int)
      · rw [if_pos c3] at H
        have c3b0 : decide (x8_1 < (a0.size : Int)) = true := decide_eq_true c3
        clear c3
        by_cases c4 : 0 ≤ x8_1
        · rw [if_pos c4] at H
          have c4b0 := eq_true c4
          have c4b1 : decide (0 ≤ x8_1) = true := decide_eq_true c4
          clear c4
          by_cases c5 : x8_1 ≤ (wrap64 (x8_1 + 1))
          · rw [if_pos c5] at H
            have c5b0 := eq_true c5
            have c5b1 : decide (x8_1 ≤ (wrap64 (x8_1 + 1))) = true := decide_eq_true c5
            by_cases c6 : (wrap64 (x8_1 + 1)) ≤ (a0.size : Int)
            · rw [if_pos c6] at H
              have c6b0 := eq_true c6
              have c6b1 : decide ((wrap64 (x8_1 + 1)) ≤ (a0.size : Int)) = true := decide_eq_true c6
              by_cases c7 : x7_1.size + (a0.extract (x8_1 : Int).toNat ((wrap64 (x8_1 + 1)) : Int).toNat).size ≤ 9223372036854775807
              · rw [if_pos c7] at H
                have c7b0 := eq_true c7
                have c7b1 : decide (x7_1.size + (a0.extract (x8_1 : Int).toNat ((wrap64 (x8_1 + 1)) : Int).toNat).size ≤ 9223372036854775807) = true := decide_eq_true c7
                try have c7b2 : (9223372036854775807 < x7_1.size + (a0.extract (x8_1 : Int).toNat ((wrap64 (x8_1 + 1)) : Int).toNat).size) = False := eq_false (Nat.not_lt.2 c7)
                replace H := Option.bind_eq_some_iff.mp H
                obtain ⟨t510, A80, H⟩ := H
                replace H : (offcutref01_DivMod.l1 k1 a0 a1 x6_1 t510 x8_1 0) = some (r1, r2) := H
                have A8 := Aside0.mk A80
                clear A80
                have H' := Aside0.mk H
                clear H
                go_wp2_with (first | ((with_reducible refine gate_callee (f := 92) rfl ?_); refine goesL_ (some 23) rfl rfl Try.func92 (by kernel_rfl) rfl #[.string (x7_1 ++ (a0.extract (x8_1 : Int).toNat ((wrap64 (x8_1 + 1)) : Int).toNat))] rfl (by (try simp only [List.map_toArray, List.map_cons, List.map_nil]); first | done | rfl) ?_; (with_reducible refine (offcutref01_cut.calls k1 (x7_1 ++ (a0.extract (x8_1 : Int).toNat ((wrap64 (x8_1 + 1)) : Int).toNat)) t510 _ A8.out).mono ?_); rintro e w' ⟨rfl, ⟨nd, rfl⟩⟩; refine ⟨_, rfl, ?_⟩))
                go_loopg [7, 9] k1 (fun kq v7 v9 w' => ∃ (x7_2 : ByteArray) (x9_2 : Int), v7 = .string x7_2 ∧ v9 = .int .i64 x9_2 ∧ Aside0 (offcutref01_DivMod.l1 kq a0 a1 x6_1 x7_2 x8_1 x9_2 = some (r1, r2)) ∧ Aside0 (kq ≤ k1) ∧ Drawn0 w w')
                case atStart => exact ⟨(t510), (0), (by first | rfl | (simp; done) | (simp [*]; done)), (by first | rfl | (simp; done) | (simp [*]; done)), H', ⟨Nat.le_refl _⟩, by repeat (first | exact Drawn0.refl _ | apply Drawn0.step)⟩
                case round =>
                  clear H'
                  try clear p2
                  try clear c3
                  try clear c3b0
                  try clear c4
                  try clear c4b0
                  try clear c4b1
                  try clear c5
                  try clear c5b0
                  try clear c5b1
                  try clear c6
                  try clear c6b0
                  try clear c6b1
                  try clear p6
                  try clear c7
                  try clear c7b0
                  try clear c7b1
                  try clear c7b2
                  try clear c8
                  try clear p2
                  obtain ⟨x7_2, x9_2, rfl, rfl, HA, HK2, ⟨m2, rfl⟩⟩ := hrel
                  cases gk with
                  | zero => exact absurd HA.out (by simp [offcutref01_DivMod.l1])
                  | succ k2 =>
                    have H := HA.out
                    clear HA
                    simp only [offcutref01_DivMod.l1] at H
                    replace H := Option.bind_eq_some_iff.mp H
                    obtain ⟨t511, A90, H⟩ := H
                    replace H : (if t511 = true then ((offcutref01_sign.f x9_2).bind fun t512 => (if x6_1.size + t512.size ≤ 9223372036854775807 then (offcutref01_DivMod.l0 k2 a0 a1 (x6_1 ++ t512) x7_2 (wrap64 (x8_1 + 1))) else (none))) else ((offcutref01_Sub.f k2 x7_2 a1).bind fun t513 => (offcutref01_DivMod.l1 k2 a0 a1 x6_1 t513 x8_1 (wrap64 (x9_2 + 1))))) = some (r1, r2) := H
                    have A9 := Aside0.mk A90
                    clear A90
                    by_cases c10 : t511 = true
                    · subst c10
                      have H1 : ((offcutref01_sign.f x9_2).bind fun t512 => (if x6_1.size + t512.size ≤ 9223372036854775807 then (offcutref01_DivMod.l0 k2 a0 a1 (x6_1 ++ t512) x7_2 (wrap64 (x8_1 + 1))) else (none))) = some (r1, r2) := by rw [if_pos rfl] at H; exact H
                      clear H
                      have H := H1
                      clear H1
                      replace H := Option.bind_eq_some_iff.mp H
                      obtain ⟨t512, A110, H⟩ := H
                      replace H : (if x6_1.size + t512.size ≤ 9223372036854775807 then (offcutref01_DivMod.l0 k2 a0 a1 (x6_1 ++ t512) x7_2 (wrap64 (x8_1 + 1))) else (none)) = some (r1, r2) := H
                      have A11 := Aside0.mk A110
                      clear A110
                      by_cases c12 : x6_1.size + t512.size ≤ 9223372036854775807
                      · rw [if_pos c12] at H
                        have c12b0 := eq_true c12
                        have c12b1 : decide (x6_1.size + t512.size ≤ 9223372036854775807) = true := decide_eq_true c12
                        try have c12b2 : (9223372036854775807 < x6_1.size + t512.size) = False := eq_false (Nat.not_lt.2 c12)
                        have H' := Aside0.mk H
                        clear H
                        go_wp2_with (first | ((with_reducible refine gate_callee (f := 76) rfl ?_); refine goesL_ (some 26) rfl rfl Try.func76 (by kernel_rfl) rfl #[.string x7_2, .string a1] rfl (by (try simp only [List.map_toArray, List.map_cons, List.map_nil]); first | done | rfl) ?_; (with_reducible refine (offcutref01_Less.calls x7_2 a1 true _ A9.out).mono ?_); rintro e w' ⟨rfl, ⟨nd, rfl⟩⟩; refine ⟨_, rfl, ?_⟩) | ((with_reducible refine gate_callee (f := 91) rfl ?_); refine goesL_ (some 35) rfl rfl Try.func91 (by kernel_rfl) rfl #[.int .i64 x9_2] rfl (by (try simp only [List.map_toArray, List.map_cons, List.map_nil]); first | done | rfl) ?_; (with_reducible refine (offcutref01_sign.calls x9_2 t512 _ A11.out).mono ?_); rintro e w' ⟨rfl, ⟨nd, rfl⟩⟩; refine ⟨_, rfl, ?_⟩))
                        go_roundg k2
                        case measure => have := HK1.out; have := HK2.out; omega
                        case rel => exact ⟨(x6_1 ++ t512), (x7_2), (wrap64 (x8_1 + 1)), (by first | rfl | (simp; done) | (simp [*]; done)), (by first | rfl | (simp; done) | (simp [*]; done)), (by first | rfl | (simp; done) | (simp [*]; done)), H', ⟨by have := HK1.out; have := HK2.out; omega⟩, by repeat (first | exact Drawn0.refl _ | apply Drawn0.step)⟩
                      · rw [if_neg c12] at H
                        exact absurd H (by simp)
                    · replace c10 := Bool.eq_false_iff.mpr c10
                      subst c10
                      have H1 : ((offcutref01_Sub.f k2 x7_2 a1).bind fun t513 => (offcutref01_DivMod.l1 k2 a0 a1 x6_1 t513 x8_1 (wrap64 (x9_2 + 1)))) = some (r1, r2) := by rw [if_neg (show ¬ (false = true) by decide)] at H; exact H
                      clear H
                      have H := H1
                      clear H1
                      replace H := Option.bind_eq_some_iff.mp H
                      obtain ⟨t513, A130, H⟩ := H
                      replace H : (offcutref01_DivMod.l1 k2 a0 a1 x6_1 t513 x8_1 (wrap64 (x9_2 + 1))) = some (r1, r2) := H
                      have A13 := Aside0.mk A130
                      clear A130
                      have H' := Aside0.mk H
                      clear H
                      go_wp2_with (first | ((with_reducible refine gate_callee (f := 76) rfl ?_); refine goesL_ (some 26) rfl rfl Try.func76 (by kernel_rfl) rfl #[.string x7_2, .string a1] rfl (by (try simp only [List.map_toArray, List.map_cons, List.map_nil]); first | done | rfl) ?_; (with_reducible refine (offcutref01_Less.calls x7_2 a1 false _ A9.out).mono ?_); rintro e w' ⟨rfl, ⟨nd, rfl⟩⟩; refine ⟨_, rfl, ?_⟩) | ((with_reducible refine gate_callee (f := 77) rfl ?_); refine goesL_ (some 30) rfl rfl Try.func77 (by kernel_rfl) rfl #[.string x7_2, .string a1] rfl (by (try simp only [List.map_toArray, List.map_cons, List.map_nil]); first | done | rfl) ?_; (with_reducible refine (offcutref01_Sub.calls k2 x7_2 a1 t513 _ A13.out).mono ?_); rintro e w' ⟨rfl, ⟨nd, rfl⟩⟩; refine ⟨_, rfl, ?_⟩))
                      go_roundg k2
                      case measure => have := HK1.out; have := HK2.out; omega
                      case rel => exact ⟨(t513), (wrap64 (x9_2 + 1)), (by first | rfl | (simp; done) | (simp [*]; done)), (by first | rfl | (simp; done) | (simp [*]; done)), H', ⟨by have := HK1.out; have := HK2.out; omega⟩, by repeat (first | exact Drawn0.refl _ | apply Drawn0.step)⟩
              · rw [if_neg c7] at H
                exact absurd H (by simp)
            · rw [if_neg c6] at H
              exact absurd H (by simp)
          · rw [if_neg c5] at H
            exact absurd H (by simp)
        · rw [if_neg c4] at H
          exact absurd H (by simp)
      · rw [if_neg c3] at H
        have c3b0 : decide (x8_1 < (a0.size : Int)) = false := decide_eq_false c3
        clear c3
        replace H := Option.bind_eq_some_iff.mp H
        obtain ⟨t509, A140, H⟩ := H
        replace H : (some (t509, x7_1)) = some (r1, r2) := H
        have A14 := Aside0.mk A140
        clear A140
        simp only [Option.some.injEq, Prod.mk.injEq] at H
        obtain ⟨rfl, rfl⟩ := H
        go_wp2_with (first | ((with_reducible refine gate_callee (f := 92) rfl ?_); refine goesL_ (some 38) rfl rfl Try.func92 (by kernel_rfl) rfl #[.string x6_1] rfl (by (try simp only [List.map_toArray, List.map_cons, List.map_nil]); first | done | rfl) ?_; (with_reducible refine (offcutref01_cut.calls k1 x6_1 t509 _ A14.out).mono ?_); rintro e w' ⟨rfl, ⟨nd, rfl⟩⟩; refine ⟨_, rfl, ?_⟩))
        go_ret2
        exact ⟨by first | rfl | (simp; done) | (simp [*]; done), by repeat (first | exact Drawn0.refl _ | apply Drawn0.step)⟩

/-- How often y goes into t: what is left, and the digit; then what follows. -/
theorem offcutref01_DivMod.ev_1 {x0 : ByteArray} {y : Nat} (hy : y ≠ 0) {qs : List Nat} (lq : qs.length < 1000000000) {i : Nat} (li : i < 1000000000) {r : ByteArray × ByteArray} {R n0 : Nat} (hR : R < y) (hn0 : n0 < 10)
    (next : Ev (fun k => offcutref01_DivMod.l0 k x0 (Dec.dec y) (Dec.tx (n0 :: qs)) (Dec.dec R) ((i + 1 : Nat) : Int)) r) (d : Nat) : ∀ (n : Nat), n + d = n0 → (Dec.dc (R + y * d)).length < 1000000000 →
    Ev (fun k => offcutref01_DivMod.l1 k x0 (Dec.dec y) (Dec.tx qs) (Dec.dec (R + y * d)) (i : Int) (n : Int)) r := by
  induction d with
  | zero =>
    intro n hn hl
    obtain rfl : n = n0 := by omega
    refine Ev.step (f := fun k => offcutref01_DivMod.l0 k x0 (Dec.dec y) (Dec.tx (n :: qs)) (Dec.dec R) ((i + 1 : Nat) : Int)) (fun k => ?_) next
    rw [offcutref01_DivMod.l1, offcutref01_Less.sem, Option.bind_some, Nat.mul_zero, Nat.add_zero, decide_eq_true hR, if_pos rfl, offcutref01_sign.sem _ hn0, Option.bind_some, Dec.tx_append, Dec.tx_size, Dec.tx_size, if_pos (by rw [List.length_singleton]; omega), Dec.w64s _ (by omega)]
    rfl
  | succ d ih =>
    intro n hn hl
    have hle : y ≤ R + y * (d + 1) := by rw [Nat.mul_succ]; omega
    have hs := offcutref01_Sub.ev_dec hle hl
    have e : R + y * (d + 1) - y = R + y * d := by rw [Nat.mul_succ]; omega
    rw [e] at hs
    have hl2 : (Dec.dc (R + y * d)).length < 1000000000 := by
      rcases Nat.lt_or_ge (Dec.dc (R + y * (d + 1))).length (Dec.dc (R + y * d)).length with h1 | h1
      · have := Dec.dc_len_lt h1
        rw [Nat.mul_succ] at this
        omega
      · omega
    refine Ev.step (f := fun k => (offcutref01_Sub.f k (Dec.dec (R + y * (d + 1))) (Dec.dec y)).bind fun t268 => (offcutref01_DivMod.l1 k x0 (Dec.dec y) (Dec.tx qs) t268 (i : Int) ((n + 1 : Nat) : Int))) (fun k => ?_) (Ev.bind hs (ih (n + 1) (by omega) hl2))
    rw [offcutref01_DivMod.l1, offcutref01_Less.sem, Option.bind_some, decide_eq_false (by omega), if_neg (by decide), Dec.w64s _ (by omega)]
theorem offcutref01_DivMod.ev_0 {a : List Nat} (ha : Dec.Ds a) (la : a.length < 100000000) {y : Nat} (hy : y ≠ 0) (ly : (Dec.dc y).length < 100000000) (d : Nat) : ∀ (qs : List Nat), qs.length + d = a.length → Dec.Ds qs → Dec.dv qs = Dec.dv (a.drop d) / y →
    Ev (fun k => offcutref01_DivMod.l0 k (Dec.tx a) (Dec.dec y) (Dec.tx qs) (Dec.dec (Dec.dv (a.drop d) % y)) (qs.length : Int)) (Dec.dec (Dec.dv a / y), Dec.dec (Dec.dv a % y)) := by
  induction d with
  | zero =>
    intro qs hl hq hv
    rw [List.drop_zero] at hv ⊢
    refine Ev.step (f := fun k => (offcutref01_cut.f k (Dec.tx qs)).bind fun t264 => (some (t264, Dec.dec (Dec.dv a % y)))) (fun k => ?_) ?_
    · rw [offcutref01_DivMod.l0, Dec.tx_size, if_neg (by omega)]
    · rw [← hv]
      exact Ev.bind (offcutref01_cut.ev hq) (Ev.now _)
  | succ d ih =>
    intro qs hl hq hv
    have hg := ha.getD d
    obtain ⟨g, hgd⟩ : ∃ g, g = a.getD d 0 := ⟨_, rfl⟩
    rw [← hgd] at hg
    obtain ⟨P, hP⟩ : ∃ P, P = Dec.dv (a.drop (d + 1)) := ⟨_, rfl⟩
    have hdrop : Dec.dv (a.drop d) = g + 10 * P := by
      rw [List.drop_eq_getElem_cons (by omega), Dec.dv, hP]
      have : a[d] = g := by rw [hgd, List.getD_eq_getElem?_getD, List.getElem?_eq_getElem (by omega)]; rfl
      rw [this]
    rw [← hP] at hv ⊢
    have hr := Nat.mod_lt P (Nat.pos_of_ne_zero hy)
    have hPe := Nat.div_add_mod P y
    obtain ⟨t, ht⟩ : ∃ t, t = g + 10 * (P % y) := ⟨_, rfl⟩
    have htot : Dec.dv (a.drop d) = t + y * (10 * (P / y)) := by
      rw [hdrop, ht]
      have h1 : y * (10 * (P / y)) = 10 * (y * (P / y)) := Nat.mul_left_comm _ _ _
      omega
    have hq1 : Dec.dv (a.drop d) / y = t / y + 10 * (P / y) := by rw [htot, Nat.add_mul_div_left _ _ (Nat.pos_of_ne_zero hy)]
    have hm1 : Dec.dv (a.drop d) % y = t % y := by rw [htot, Nat.add_mul_mod_self_left]
    have htl : t < 10 * y := by omega
    have hn : t / y < 10 := Nat.div_lt_of_lt_mul (by rw [Nat.mul_comm]; exact htl)
    have hte : t % y + y * (t / y) = t := Nat.mod_add_div t y
    have ht2 : (Dec.dc t).length ≤ (Dec.dc y).length + 1 := by
      have h1 := Dec.dv_lt (Dec.Ds_dc y)
      rw [Dec.dv_dc] at h1
      refine Dec.dc_length_le (by omega) ?_
      rw [Nat.pow_succ]
      omega
    have hrl : (Dec.dc (P % y)).length ≤ (Dec.dc y).length := by
      rcases Nat.lt_or_ge (Dec.dc y).length (Dec.dc (P % y)).length with h1 | h1
      · have := Dec.dc_len_lt h1
        omega
      · exact h1
    have hcut := offcutref01_cut.ev ((Dec.Ds_dc (P % y)).cons hg)
    rw [Dec.dv, Dec.dv_dc, ← ht] at hcut
    have hex : (Dec.tx a).extract qs.length (qs.length + 1) = Dec.tx [g] := by
      rw [Dec.tx_extract]
      unfold Dec.tx
      congr 2
      rw [show qs.length + 1 - qs.length = 1 from by omega, List.take_one, List.head?_drop, List.getElem?_map, List.getElem?_reverse (by omega), show a.length - 1 - qs.length = d from by omega, List.getElem?_eq_getElem (by omega), hgd, List.getD_eq_getElem?_getD, List.getElem?_eq_getElem (by omega)]
      rfl
    refine Ev.step (f := fun k => (offcutref01_cut.f k (Dec.tx (g :: Dec.dc (P % y)))).bind fun t265 => (offcutref01_DivMod.l1 k (Dec.tx a) (Dec.dec y) (Dec.tx qs) t265 (qs.length : Int) ((0 : Nat) : Int))) (fun k => ?_) (Ev.bind hcut ?_)
    · rw [offcutref01_DivMod.l0, Dec.w64s _ (by omega), Int.toNat_natCast, Int.toNat_natCast, hex, Dec.tx_size, if_pos (by omega), if_pos (by omega), if_pos (by omega), if_pos (by omega), if_pos (by unfold Dec.dec; rw [Dec.tx_size, Dec.tx_size, List.length_singleton]; omega)]
      show (offcutref01_cut.f k (Dec.tx (Dec.dc (P % y)) ++ Dec.tx [g])).bind _ = _
      rw [Dec.tx_append]
      rfl
    · have hnext := ih (t / y :: qs) (by rw [List.length_cons]; omega) (hq.cons hn) (by rw [Dec.dv, hv, hq1])
      rw [hm1, List.length_cons] at hnext
      have := offcutref01_DivMod.ev_1 (x0 := Dec.tx a) hy (qs := qs) (by omega) (i := qs.length) (by omega) (Nat.mod_lt t (Nat.pos_of_ne_zero hy)) hn hnext (t / y) 0 (by omega) (by rw [hte]; omega)
      rw [hte] at this
      exact this
theorem offcutref01_DivMod.ev {x y : Nat} (lx : (Dec.dc x).length < 100000000) (hy : y ≠ 0) (ly : (Dec.dc y).length < 100000000) : Ev (fun k => offcutref01_DivMod.f k (Dec.dec x) (Dec.dec y)) (Dec.dec (x / y), Dec.dec (x % y)) := by
  have := offcutref01_DivMod.ev_0 (Dec.Ds_dc x) lx hy ly (Dec.dc x).length [] (by rw [List.length_nil]; omega) Dec.Ds.nil (by rw [List.drop_length]; exact (Nat.zero_div y).symm)
  rw [List.drop_length, Dec.dv_dc, Dec.dv, Nat.zero_mod, Dec.dec_zero] at this
  exact this

end Go.Proofs.Ytjpkljkkcbaohaa.PR

end
section
namespace Go.Proofs.Ytjpkljkkcbaohaa.PR
open Go.RowKit Go.Proofs.YtjpkljkkcbaohaaW.PrintWords Go.Proofs.YtjpkljkkcbaohaaW.PrintLast Go.Proofs.YtjpkljkkcbaohaaW.PrintMore
attribute [local go_sem] max2_int min2_int max_two min_two max_three min_three max_four min_four   -- for this text's walks alone
set_option linter.unusedVariables false
set_option linter.unusedSimpArgs false

/-! ### offcutref02_Floor: function 35 -/
def offcutref02_Floor.j0 : Nat → ByteArray → ByteArray → ByteArray → Bool → Option (ByteArray × ByteArray)
  | 0, _, _, _, _ => none
  | k + 1, x1, x8, x9, x39 => if x39 = true then ((offcutref02_Add.f k x8 (⟨#[45, 49]⟩ : ByteArray)).bind fun t526 => ((offcutref02_Add.f k x9 x1).bind fun t527 => (some (t526, t527)))) else (some (x8, x9))
def offcutref02_Floor.f (k : Nat) (a0 : ByteArray) (a1 : ByteArray) : Option (ByteArray × ByteArray) := (offcutref02_size.f a0).bind fun t514 => ((offcutref02_size.f a1).bind fun t515 => ((offcutref01_DivMod.f k t514 t515).bind fun bt516 => ((offcutref02_Below.f a0).bind fun t518 => ((offcutref02_Below.f a1).bind fun t519 => ((offcutref02_Made.f (t518 != t519) bt516.1).bind fun t520 => ((offcutref02_Mul.f k a1 t520).bind fun t521 => ((offcutref02_Neg.f t521).bind fun t522 => ((offcutref02_Add.f k a0 t522).bind fun t523 => (if t523.toList = ([48] : List UInt8) then (offcutref02_Floor.j0 k a1 t520 t523 false) else ((offcutref02_Below.f t523).bind fun t524 => ((offcutref02_Below.f a1).bind fun t525 => (offcutref02_Floor.j0 k a1 t520 t523 (t524 != t525)))))))))))))
theorem offcutref02_Floor.mono_l : ∀ k, (∀ y0 y1 y2 y3, LeO (offcutref02_Floor.j0 k y0 y1 y2 y3) (offcutref02_Floor.j0 (k + 1) y0 y1 y2 y3))
  | 0 => fun _ _ _ _ r h => by simp [offcutref02_Floor.j0] at h
  | k + 1 => by
    have ih0 := offcutref02_Floor.mono_l k
    · intro y0 y1 y2 y3
      unfold offcutref02_Floor.j0
      repeat' first
      | (with_reducible exact ih0 _ _ _ _)
      | (with_reducible exact offcutref01_DivMod.mono _ _ _)
      | (with_reducible exact offcutref02_Add.mono _ _ _)
      | (with_reducible exact offcutref02_Mul.mono _ _ _)
      | (with_reducible exact LeO.refl _)
      | (with_reducible exact LeO.none _)
      | (with_reducible refine LeO.ite ?_ ?_)
      | (with_reducible refine LeO.bind ?_ (fun _ => ?_))
      | exact LeO.none _
      | refine LeO.ite ?_ ?_
      | refine LeO.bind ?_ (fun _ => ?_)
theorem offcutref02_Floor.mono : ∀ a0 a1 k, LeO (offcutref02_Floor.f k a0 a1) (offcutref02_Floor.f (k + 1) a0 a1) := by
  intro a0 a1 k
  have ih0 := offcutref02_Floor.mono_l k
  unfold offcutref02_Floor.f
  repeat' first
      | (with_reducible exact ih0 _ _ _ _)
      | (with_reducible exact offcutref01_DivMod.mono _ _ _)
      | (with_reducible exact offcutref02_Add.mono _ _ _)
      | (with_reducible exact offcutref02_Mul.mono _ _ _)
      | (with_reducible exact LeO.refl _)
      | (with_reducible exact LeO.none _)
      | (with_reducible refine LeO.ite ?_ ?_)
      | (with_reducible refine LeO.bind ?_ (fun _ => ?_))
      | exact LeO.none _
      | refine LeO.ite ?_ ?_
      | refine LeO.bind ?_ (fun _ => ?_)
set_option maxHeartbeats 8000000 in
set_option maxRecDepth 100000 in
theorem offcutref02_Floor.calls (k : Nat) (a0 : ByteArray) (a1 : ByteArray) (r1 : ByteArray) (r2 : ByteArray) (w : World) (h : offcutref02_Floor.f k a0 a1 = some (r1, r2)) :
    Calls Try.prog 35 #[.string a0, .string a1] w fun e w' => e = .returned (.tuple #[.string r1, .string r2]) ∧ Below w.heap.size w w' := by
  have HB := Aside0.mk (Below.refl w.heap.size w)
  have H : ((offcutref02_size.f a0).bind fun t514 => ((offcutref02_size.f a1).bind fun t515 => ((offcutref01_DivMod.f k t514 t515).bind fun bt516 => ((offcutref02_Below.f a0).bind fun t518 => ((offcutref02_Below.f a1).bind fun t519 => ((offcutref02_Made.f (t518 != t519) bt516.1).bind fun t520 => ((offcutref02_Mul.f k a1 t520).bind fun t521 => ((offcutref02_Neg.f t521).bind fun t522 => ((offcutref02_Add.f k a0 t522).bind fun t523 => (if t523.toList = ([48] : List UInt8) then (offcutref02_Floor.j0 k a1 t520 t523 false) else ((offcutref02_Below.f t523).bind fun t524 => ((offcutref02_Below.f a1).bind fun t525 => (offcutref02_Floor.j0 k a1 t520 t523 (t524 != t525)))))))))))))) = some (r1, r2) := h
  clear h
  replace H := Option.bind_eq_some_iff.mp H
  obtain ⟨t514, A30, H⟩ := H
  replace H : ((offcutref02_size.f a1).bind fun t515 => ((offcutref01_DivMod.f k t514 t515).bind fun bt516 => ((offcutref02_Below.f a0).bind fun t518 => ((offcutref02_Below.f a1).bind fun t519 => ((offcutref02_Made.f (t518 != t519) bt516.1).bind fun t520 => ((offcutref02_Mul.f k a1 t520).bind fun t521 => ((offcutref02_Neg.f t521).bind fun t522 => ((offcutref02_Add.f k a0 t522).bind fun t523 => (if t523.toList = ([48] : List UInt8) then (offcutref02_Floor.j0 k a1 t520 t523 false) else ((offcutref02_Below.f t523).bind fun t524 => ((offcutref02_Below.f a1).bind fun t525 => (offcutref02_Floor.j0 k a1 t520 t523 (t524 != t525))))))))))))) = some (r1, r2) := H
  have A3 := Aside0.mk A30
  clear A30
  replace H := Option.bind_eq_some_iff.mp H
  obtain ⟨t515, A40, H⟩ := H
  replace H : ((offcutref01_DivMod.f k t514 t515).bind fun bt516 => ((offcutref02_Below.f a0).bind fun t518 => ((offcutref02_Below.f a1).bind fun t519 => ((offcutref02_Made.f (t518 != t519) bt516.1).bind fun t520 => ((offcutref02_Mul.f k a1 t520).bind fun t521 => ((offcutref02_Neg.f t521).bind fun t522 => ((offcutref02_Add.f k a0 t522).bind fun t523 => (if t523.toList = ([48] : List UInt8) then (offcutref02_Floor.j0 k a1 t520 t523 false) else ((offcutref02_Below.f t523).bind fun t524 => ((offcutref02_Below.f a1).bind fun t525 => (offcutref02_Floor.j0 k a1 t520 t523 (t524 != t525)))))))))))) = some (r1, r2) := H
  have A4 := Aside0.mk A40
  clear A40
  replace H := Option.bind_eq_some_iff.mp H
  obtain ⟨⟨t516, t517⟩, A50, H⟩ := H
  replace H : ((offcutref02_Below.f a0).bind fun t518 => ((offcutref02_Below.f a1).bind fun t519 => ((offcutref02_Made.f (t518 != t519) t516).bind fun t520 => ((offcutref02_Mul.f k a1 t520).bind fun t521 => ((offcutref02_Neg.f t521).bind fun t522 => ((offcutref02_Add.f k a0 t522).bind fun t523 => (if t523.toList = ([48] : List UInt8) then (offcutref02_Floor.j0 k a1 t520 t523 false) else ((offcutref02_Below.f t523).bind fun t524 => ((offcutref02_Below.f a1).bind fun t525 => (offcutref02_Floor.j0 k a1 t520 t523 (t524 != t525))))))))))) = some (r1, r2) := H
  have A5 := Aside0.mk A50
  clear A50
  replace H := Option.bind_eq_some_iff.mp H
  obtain ⟨t518, A60, H⟩ := H
  replace H : ((offcutref02_Below.f a1).bind fun t519 => ((offcutref02_Made.f (t518 != t519) t516).bind fun t520 => ((offcutref02_Mul.f k a1 t520).bind fun t521 => ((offcutref02_Neg.f t521).bind fun t522 => ((offcutref02_Add.f k a0 t522).bind fun t523 => (if t523.toList = ([48] : List UInt8) then (offcutref02_Floor.j0 k a1 t520 t523 false) else ((offcutref02_Below.f t523).bind fun t524 => ((offcutref02_Below.f a1).bind fun t525 => (offcutref02_Floor.j0 k a1 t520 t523 (t524 != t525)))))))))) = some (r1, r2) := H
  have A6 := Aside0.mk A60
  clear A60
  replace H := Option.bind_eq_some_iff.mp H
  obtain ⟨t519, A70, H⟩ := H
  replace H : ((offcutref02_Made.f (t518 != t519) t516).bind fun t520 => ((offcutref02_Mul.f k a1 t520).bind fun t521 => ((offcutref02_Neg.f t521).bind fun t522 => ((offcutref02_Add.f k a0 t522).bind fun t523 => (if t523.toList = ([48] : List UInt8) then (offcutref02_Floor.j0 k a1 t520 t523 false) else ((offcutref02_Below.f t523).bind fun t524 => ((offcutref02_Below.f a1).bind fun t525 => (offcutref02_Floor.j0 k a1 t520 t523 (t524 != t525))))))))) = some (r1, r2) := H
  have A7 := Aside0.mk A70
  clear A70
  replace H := Option.bind_eq_some_iff.mp H
  obtain ⟨t520, A80, H⟩ := H
  replace H : ((offcutref02_Mul.f k a1 t520).bind fun t521 => ((offcutref02_Neg.f t521).bind fun t522 => ((offcutref02_Add.f k a0 t522).bind fun t523 => (if t523.toList = ([48] : List UInt8) then (offcutref02_Floor.j0 k a1 t520 t523 false) else ((offcutref02_Below.f t523).bind fun t524 => ((offcutref02_Below.f a1).bind fun t525 => (offcutref02_Floor.j0 k a1 t520 t523 (t524 != t525)))))))) = some (r1, r2) := H
  have A8 := Aside0.mk A80
  clear A80
  replace H := Option.bind_eq_some_iff.mp H
  obtain ⟨t521, A90, H⟩ := H
  replace H : ((offcutref02_Neg.f t521).bind fun t522 => ((offcutref02_Add.f k a0 t522).bind fun t523 => (if t523.toList = ([48] : List UInt8) then (offcutref02_Floor.j0 k a1 t520 t523 false) else ((offcutref02_Below.f t523).bind fun t524 => ((offcutref02_Below.f a1).bind fun t525 => (offcutref02_Floor.j0 k a1 t520 t523 (t524 != t525))))))) = some (r1, r2) := H
  have A9 := Aside0.mk A90
  clear A90
  replace H := Option.bind_eq_some_iff.mp H
  obtain ⟨t522, A100, H⟩ := H
  replace H : ((offcutref02_Add.f k a0 t522).bind fun t523 => (if t523.toList = ([48] : List UInt8) then (offcutref02_Floor.j0 k a1 t520 t523 false) else ((offcutref02_Below.f t523).bind fun t524 => ((offcutref02_Below.f a1).bind fun t525 => (offcutref02_Floor.j0 k a1 t520 t523 (t524 != t525)))))) = some (r1, r2) := H
  have A10 := Aside0.mk A100
  clear A100
  replace H := Option.bind_eq_some_iff.mp H
  obtain ⟨t523, A110, H⟩ := H
  replace H : (if t523.toList = ([48] : List UInt8) then (offcutref02_Floor.j0 k a1 t520 t523 false) else ((offcutref02_Below.f t523).bind fun t524 => ((offcutref02_Below.f a1).bind fun t525 => (offcutref02_Floor.j0 k a1 t520 t523 (t524 != t525))))) = some (r1, r2) := H
  have A11 := Aside0.mk A110
  clear A110
  have HC12 := Aside0.mk H
  clear H
  go_enter Try.func35, Try.ntmps35
  go_upto_region 4 with (first | ((with_reducible refine gate_callee (f := 75) rfl ?_); refine goesL_ (some 12) rfl rfl Try.func75 (by kernel_rfl) rfl #[.string a0] rfl (by (try simp only [List.map_toArray, List.map_cons, List.map_nil]); first | done | rfl) ?_; (with_reducible refine (offcutref02_size.calls a0 t514 _ A3.out).mono ?_); rintro e w' ⟨rfl, ⟨nd, rfl⟩⟩; refine ⟨_, rfl, ?_⟩) | ((with_reducible refine gate_callee (f := 75) rfl ?_); refine goesL_ (some 14) rfl rfl Try.func75 (by kernel_rfl) rfl #[.string a1] rfl (by (try simp only [List.map_toArray, List.map_cons, List.map_nil]); first | done | rfl) ?_; (with_reducible refine (offcutref02_size.calls a1 t515 _ A4.out).mono ?_); rintro e w' ⟨rfl, ⟨nd, rfl⟩⟩; refine ⟨_, rfl, ?_⟩) | ((with_reducible refine gate_callee (f := 84) rfl ?_); refine goesL_ (some 15) rfl rfl Try.func84 (by kernel_rfl) rfl #[.string t514, .string t515] rfl (by (try simp only [List.map_toArray, List.map_cons, List.map_nil]); first | done | rfl) ?_; (with_reducible refine (offcutref01_DivMod.calls k t514 t515 t516 t517 _ A5.out).mono ?_); rintro e w' ⟨rfl, ⟨nd, rfl⟩⟩; refine ⟨_, rfl, ?_⟩) | ((with_reducible refine gate_callee (f := 29) rfl ?_); refine goesL_ (some 19) rfl rfl Try.func29 (by kernel_rfl) rfl #[.string a0] rfl (by (try simp only [List.map_toArray, List.map_cons, List.map_nil]); first | done | rfl) ?_; (with_reducible refine (offcutref02_Below.calls a0 t518 _ A6.out).mono ?_); rintro e w' ⟨rfl, ⟨nd, rfl⟩⟩; refine ⟨_, rfl, ?_⟩) | ((with_reducible refine gate_callee (f := 29) rfl ?_); refine goesL_ (some 21) rfl rfl Try.func29 (by kernel_rfl) rfl #[.string a1] rfl (by (try simp only [List.map_toArray, List.map_cons, List.map_nil]); first | done | rfl) ?_; (with_reducible refine (offcutref02_Below.calls a1 t519 _ A7.out).mono ?_); rintro e w' ⟨rfl, ⟨nd, rfl⟩⟩; refine ⟨_, rfl, ?_⟩) | ((with_reducible refine gate_callee (f := 42) rfl ?_); refine goesL_ (some 24) rfl rfl Try.func42 (by kernel_rfl) rfl #[.bool (t518 != t519), .string t516] rfl (by (try simp only [List.map_toArray, List.map_cons, List.map_nil]); first | done | rfl) ?_; (with_reducible refine (offcutref02_Made.calls (t518 != t519) t516 t520 _ A8.out).mono ?_); rintro e w' ⟨rfl, ⟨nd, rfl⟩⟩; refine ⟨_, rfl, ?_⟩) | ((with_reducible refine gate_callee (f := 26) rfl ?_); refine goesL_ (some 28) rfl rfl Try.func26 (by kernel_rfl) rfl #[.string a1, .string t520] rfl (by (try simp only [List.map_toArray, List.map_cons, List.map_nil]); first | done | rfl) ?_; (with_reducible refine (offcutref02_Mul.calls k a1 t520 t521 _ A9.out).mono ?_); rintro e w13 ⟨rfl, hb⟩; refine ⟨_, rfl, ?_⟩; have n0_ := Aside0.mk (below_step (by repeat (first | (with_reducible first | exact HB.out | apply below_alloc | apply pw_below_drewN | apply below_drew1) | exact HB.out)) hb); clear HB; have HB := n0_; clear n0_; (try clear hb)) | ((with_reducible refine gate_callee (f := 24) rfl ?_); refine goesL_ (some 29) rfl rfl Try.func24 (by kernel_rfl) rfl #[.string t521] rfl (by (try simp only [List.map_toArray, List.map_cons, List.map_nil]); first | done | rfl) ?_; (with_reducible refine (offcutref02_Neg.calls t521 t522 _ A10.out).mono ?_); rintro e w' ⟨rfl, ⟨nd, rfl⟩⟩; refine ⟨_, rfl, ?_⟩) | ((with_reducible refine gate_callee (f := 22) rfl ?_); refine goesL_ (some 30) rfl rfl Try.func22 (by kernel_rfl) rfl #[.string a0, .string t522] rfl (by (try simp only [List.map_toArray, List.map_cons, List.map_nil]); first | done | rfl) ?_; (with_reducible refine (offcutref02_Add.calls k a0 t522 t523 _ A11.out).mono ?_); rintro e w' ⟨rfl, ⟨nd, rfl⟩⟩; refine ⟨_, rfl, ?_⟩))
  (try simp only [Act.put, List.setIfInBounds_toArray, List.set_cons_zero, List.set_cons_succ])
  go_cut [39] (fun v39 wc => ∃ (kq : Nat) (x39_11 : Bool), v39 = .bool x39_11 ∧ Aside0 (offcutref02_Floor.j0 kq a1 t520 t523 x39_11 = some (r1, r2)) ∧ Aside0 (kq ≤ k) ∧ Aside0 (Below w.heap.size w wc))
  case first =>
    have H := HC12.out
    clear HC12
    by_cases c14 : t523.toList = ([48] : List UInt8)
    · rw [if_pos c14] at H
      have c14b0 : (t523.toList == ([48] : List UInt8)) = true := beq_iff_eq.mpr c14
      have c14b1 : (t523.toList != ([48] : List UInt8)) = false := bne_eq_false_iff_eq.mpr c14
      clear c14
      (first | rw [c14b0] | (simp only [i64_w, i32_w]; rw [c14b0]) | skip)
      have H' := Aside0.mk H
      clear H
      go_wp2
      go_meet
      case rel => exact ⟨_, (false), (by first | rfl | (simp; done) | (simp [*]; done)), H', ⟨by first | omega | exact Nat.le_refl _⟩, ⟨by repeat (first | (with_reducible first | exact HB.out | apply below_alloc | apply pw_below_drewN | apply below_drew1) | exact HB.out)⟩⟩
    · rw [if_neg c14] at H
      have c14b0 : (t523.toList == ([48] : List UInt8)) = false := beq_eq_false_iff_ne.mpr c14
      have c14b1 : (t523.toList != ([48] : List UInt8)) = true := bne_iff_ne.mpr c14
      (first | rw [c14b0] | (simp only [i64_w, i32_w]; rw [c14b0]) | skip)
      replace H := Option.bind_eq_some_iff.mp H
      obtain ⟨t524, A150, H⟩ := H
      replace H : ((offcutref02_Below.f a1).bind fun t525 => (offcutref02_Floor.j0 k a1 t520 t523 (t524 != t525))) = some (r1, r2) := H
      have A15 := Aside0.mk A150
      clear A150
      replace H := Option.bind_eq_some_iff.mp H
      obtain ⟨t525, A160, H⟩ := H
      replace H : (offcutref02_Floor.j0 k a1 t520 t523 (t524 != t525)) = some (r1, r2) := H
      have A16 := Aside0.mk A160
      clear A160
      have H' := Aside0.mk H
      clear H
      go_wp2_with (first | (go_at_call 29; (with_reducible refine (offcutref02_Below.calls t523 t524 _ A15.out).mono ?_); rintro e w' ⟨rfl, ⟨nd, rfl⟩⟩) | (go_at_call 29; (with_reducible refine (offcutref02_Below.calls a1 t525 _ A16.out).mono ?_); rintro e w' ⟨rfl, ⟨nd, rfl⟩⟩))
      go_meet
      case rel => exact ⟨_, ((t524 != t525)), (by first | rfl | (simp; done) | (simp [*]; done)), H', ⟨by first | omega | exact Nat.le_refl _⟩, ⟨by repeat (first | (with_reducible first | exact HB.out | apply below_alloc | apply pw_below_drewN | apply below_drew1) | exact HB.out)⟩⟩
  case rest =>
    clear HC12
    try clear c1
    try clear c2
    try clear p2
    try clear c3
    try clear c4
    try clear c7
    try clear c8
    try clear c14
    try clear c14b0
    try clear c14b1
    obtain ⟨kq, x39_11, rfl, HA, HJ11, HB⟩ := hcut
    cases kq with
    | zero => exact absurd HA.out (by simp [offcutref02_Floor.j0])
    | succ kj11 =>
      have H := HA.out
      clear HA
      simp only [offcutref02_Floor.j0] at H
      by_cases c17 : x39_11 = true
      · subst c17
        have H1 : ((offcutref02_Add.f kj11 t520 (⟨#[45, 49]⟩ : ByteArray)).bind fun t526 => ((offcutref02_Add.f kj11 t523 a1).bind fun t527 => (some (t526, t527)))) = some (r1, r2) := by rw [if_pos rfl] at H; exact H
        clear H
        have H := H1
        clear H1
        replace H := Option.bind_eq_some_iff.mp H
        obtain ⟨t526, A180, H⟩ := H
        replace H : ((offcutref02_Add.f kj11 t523 a1).bind fun t527 => (some (t526, t527))) = some (r1, r2) := H
        have A18 := Aside0.mk A180
        clear A180
        replace H := Option.bind_eq_some_iff.mp H
        obtain ⟨t527, A190, H⟩ := H
        replace H : (some (t526, t527)) = some (r1, r2) := H
        have A19 := Aside0.mk A190
        clear A190
        simp only [Option.some.injEq, Prod.mk.injEq] at H
        obtain ⟨rfl, rfl⟩ := H
        go_wp2_with (first | ((with_reducible refine gate_callee (f := 22) rfl ?_); refine goesL_ (some 41) rfl rfl Try.func22 (by kernel_rfl) rfl #[.string t520, .string (⟨#[45, 49]⟩ : ByteArray)] rfl (by (try simp only [List.map_toArray, List.map_cons, List.map_nil]); first | done | rfl) ?_; (with_reducible refine (offcutref02_Add.calls kj11 t520 (⟨#[45, 49]⟩ : ByteArray) t526 _ A18.out).mono ?_); rintro e w' ⟨rfl, ⟨nd, rfl⟩⟩; refine ⟨_, rfl, ?_⟩) | ((with_reducible refine gate_callee (f := 22) rfl ?_); refine goesL_ (some 44) rfl rfl Try.func22 (by kernel_rfl) rfl #[.string t523, .string a1] rfl (by (try simp only [List.map_toArray, List.map_cons, List.map_nil]); first | done | rfl) ?_; (with_reducible refine (offcutref02_Add.calls kj11 t523 a1 t527 _ A19.out).mono ?_); rintro e w' ⟨rfl, ⟨nd, rfl⟩⟩; refine ⟨_, rfl, ?_⟩))
        go_ret2
        exact ⟨by first | rfl | (simp [errW_none, errW_some] <;> rfl) | (simp [*, errW_none, errW_some] <;> rfl), by repeat (first | (with_reducible first | exact HB.out | apply below_alloc | apply pw_below_drewN | apply below_drew1) | exact HB.out)⟩
      · replace c17 := Bool.eq_false_iff.mpr c17
        subst c17
        have H1 : (some (t520, t523)) = some (r1, r2) := by rw [if_neg (show ¬ (false = true) by decide)] at H; exact H
        clear H
        have H := H1
        clear H1
        simp only [Option.some.injEq, Prod.mk.injEq] at H
        obtain ⟨rfl, rfl⟩ := H
        go_wp2
        go_ret2
        exact ⟨by first | rfl | (simp [errW_none, errW_some] <;> rfl) | (simp [*, errW_none, errW_some] <;> rfl), by repeat (first | (with_reducible first | exact HB.out | apply below_alloc | apply pw_below_drewN | apply below_drew1) | exact HB.out)⟩

theorem offcutref02_Floor.ev {a b : Int} {K : Nat} (ha : a.natAbs < 2 ^ (32 * K)) (hb : b.natAbs < 2 ^ (32 * K)) (hK1 : 1 ≤ K) (hK : K < 400000) (h0 : b ≠ 0) : Ev (fun k => offcutref02_Floor.f k (Zn.tz a) (Zn.tz b)) (Zn.tz (Zn.fl a b).1, Zn.tz (Zn.fl a b).2) := by
  have la := Dec.dc_len32 (n := a.natAbs) hK1 ha
  have lb := Dec.dc_len32 (n := b.natAbs) hK1 hb
  have D := offcutref01_DivMod.ev (x := a.natAbs) (y := b.natAbs) (by omega) (by omega) (by omega)
  have hq : (Zn.flq a b).natAbs < 2 ^ (32 * K) := by
    unfold Zn.flq
    rw [Zn.natAbs_zv]
    exact Nat.lt_of_le_of_lt (Nat.div_le_self _ _) ha
  have lq := Dec.dc_len32 (n := a.natAbs / b.natAbs) hK1 (Nat.lt_of_le_of_lt (Nat.div_le_self _ _) ha)
  have d : Zn.zv (decide (a < 0) != decide (b < 0)) (a.natAbs / b.natAbs) = Zn.flq a b := by
    unfold Zn.flq
    by_cases hz : a.natAbs / b.natAbs = 0
    · rw [hz, Zn.zv_zero, Zn.zv_zero]
    · have a0 : a ≠ 0 := fun e => hz (by rw [e]; exact Nat.zero_div _)
      congr 1
      by_cases ha0 : a < 0
      · by_cases hb0 : b < 0
        · have := Int.mul_pos_of_neg_of_neg ha0 hb0
          rw [decide_eq_true ha0, decide_eq_true hb0, decide_eq_false (by omega)]
          rfl
        · have := Int.mul_neg_of_neg_of_pos ha0 (show 0 < b by omega)
          rw [decide_eq_true ha0, decide_eq_false hb0, decide_eq_true this]
          rfl
      · by_cases hb0 : b < 0
        · have := Int.mul_neg_of_pos_of_neg (show 0 < a by omega) hb0
          rw [decide_eq_false ha0, decide_eq_true hb0, decide_eq_true this]
          rfl
        · have := Int.mul_pos (show 0 < a by omega) (show 0 < b by omega)
          rw [decide_eq_false ha0, decide_eq_false hb0, decide_eq_false (by omega)]
          rfl
  have M := offcutref02_Made.sem (decide (a < 0) != decide (b < 0)) (a.natAbs / b.natAbs) (by omega)
  rw [d] at M
  have hm : (b * Zn.flq a b).natAbs < 2 ^ (32 * (K + K)) := Zn.abs_mul hb hq
  have lm := Dec.dc_len32 (n := (b * Zn.flq a b).natAbs) (k := K + K) (by omega) hm
  have P := offcutref02_Mul.ev hb hq (by omega)
  have N := offcutref02_Neg.sem (b * Zn.flq a b) (by omega)
  have A := offcutref02_Add.ev (Zn.abs_le ha (show K ≤ K + K by omega)) (Zn.abs_neg hm) (by omega)
  have er : a + -(b * Zn.flq a b) = Zn.flr a b := by unfold Zn.flr; omega
  rw [er] at A
  have hr : (Zn.flr a b).natAbs < 2 ^ (32 * K) := Nat.lt_trans (Zn.flr_lt a b h0) hb
  have J0 : (¬ Zn.flr a b * b < 0) → Ev (fun k => offcutref02_Floor.j0 k (Zn.tz b) (Zn.tz (Zn.flq a b)) (Zn.tz (Zn.flr a b)) false) (Zn.tz (Zn.fl a b).1, Zn.tz (Zn.fl a b).2) := by
    intro hn
    have e1 : Zn.fl a b = (Zn.flq a b, Zn.flr a b) := if_neg hn
    rw [e1]
    exact Ev.step (f := fun _ => some (Zn.tz (Zn.flq a b), Zn.tz (Zn.flr a b))) (fun k => by rw [offcutref02_Floor.j0, if_neg (by decide)]) (Ev.now _)
  have J1 : Zn.flr a b * b < 0 → Ev (fun k => offcutref02_Floor.j0 k (Zn.tz b) (Zn.tz (Zn.flq a b)) (Zn.tz (Zn.flr a b)) true) (Zn.tz (Zn.fl a b).1, Zn.tz (Zn.fl a b).2) := by
    intro hn
    have e1 : Zn.fl a b = (Zn.flq a b - 1, a - b * (Zn.flq a b - 1)) := if_pos hn
    rw [e1]
    have m1 : Zn.tz (-1) = (⟨#[45, 49]⟩ : ByteArray) := by
      rw [Zn.tz_neg (by omega), show (-1 : Int).natAbs = 1 from rfl, Dec.dec_one]
      rfl
    have h1 : (-1 : Int).natAbs < 2 ^ (32 * K) := by
      show 1 < _
      exact Nat.lt_of_lt_of_le (show 1 < 2 ^ 32 by decide) (Nat.pow_le_pow_right (by omega) (by omega))
    have A1 := offcutref02_Add.ev hq h1 (by omega)
    have A2 := offcutref02_Add.ev hr hb (by omega)
    rw [m1, show Zn.flq a b + -1 = Zn.flq a b - 1 from by omega] at A1
    rw [show Zn.flr a b + b = a - b * (Zn.flq a b - 1) from by unfold Zn.flr; rw [Int.mul_sub]; omega] at A2
    exact Ev.step (f := fun k => (offcutref02_Add.f k (Zn.tz (Zn.flq a b)) (⟨#[45, 49]⟩ : ByteArray)).bind fun t526 => (offcutref02_Add.f k (Zn.tz (Zn.flr a b)) (Zn.tz b)).bind fun t527 => some (t526, t527)) (fun k => by rw [offcutref02_Floor.j0, if_pos rfl]) (Ev.bind A1 (Ev.bind A2 (Ev.now _)))
  unfold offcutref02_Floor.f
  refine Dec.val (fun _ => offcutref02_size.sem a) (Dec.val (fun _ => offcutref02_size.sem b) (Ev.bind D (Dec.val (fun _ => offcutref02_Below.sem a) (Dec.val (fun _ => offcutref02_Below.sem b) (Dec.val (fun _ => M) (Ev.bind P (Dec.val (fun _ => N) (Ev.bind A ?_))))))))
  by_cases hz : Zn.flr a b = 0
  · exact Dec.yes ((Zn.tz_is0 _).2 hz) (J0 (by rw [hz, Int.zero_mul]; omega))
  · refine Dec.no (fun e => hz ((Zn.tz_is0 _).1 e)) (Dec.val (fun _ => offcutref02_Below.sem (Zn.flr a b)) (Dec.val (fun _ => offcutref02_Below.sem b) ?_))
    by_cases hn : Zn.flr a b * b < 0
    · have e : (decide (Zn.flr a b < 0) != decide (b < 0)) = true := by
        rcases Zn.mul_neg_cases hn with ⟨h1, h2⟩ | ⟨h1, h2⟩
        · rw [decide_eq_true h1, decide_eq_false (by omega)]; rfl
        · rw [decide_eq_false (by omega), decide_eq_true h2]; rfl
      rw [e]
      exact J1 hn
    · have e : (decide (Zn.flr a b < 0) != decide (b < 0)) = false := by
        by_cases h1 : Zn.flr a b < 0
        · by_cases h2 : b < 0
          · rw [decide_eq_true h1, decide_eq_true h2]; rfl
          · exact absurd (Int.mul_neg_of_neg_of_pos h1 (show 0 < b by omega)) hn
        · by_cases h2 : b < 0
          · exact absurd (Int.mul_neg_of_pos_of_neg (show 0 < Zn.flr a b by omega) h2) hn
          · rw [decide_eq_false h1, decide_eq_false h2]; rfl
      rw [e]
      exact J0 hn

end Go.Proofs.Ytjpkljkkcbaohaa.PR

end
