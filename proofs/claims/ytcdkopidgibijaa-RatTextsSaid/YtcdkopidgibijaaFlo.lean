/- Floating-point numbers of 64 bits, by their rungs: plain laws. -/
import Ieee.Arith
namespace Go.Proofs.Ytcdkopidgibijaa.Flo
open Ieee
/-- What a rung stands for, in units of the least number. -/
def vn (r : Nat) : Nat := if r < 4503599627370496 then r else (4503599627370496 + r % 4503599627370496) * 2 ^ (r / 4503599627370496 - 1)
theorem vn_step (r : Nat) : vn r < vn (r + 1) := by
  unfold vn
  by_cases h1 : r + 1 < 4503599627370496
  · rw [if_pos (by omega), if_pos h1]; omega
  · rw [if_neg h1]
    by_cases h2 : r < 4503599627370496
    · have : r = 4503599627370496 - 1 := by omega
      subst this
      decide
    · rw [if_neg h2]
      have hq : 0 < r / 4503599627370496 := Nat.div_pos (by omega) (by decide)
      by_cases h3 : r % 4503599627370496 + 1 < 4503599627370496
      · have e1 : (r + 1) / 4503599627370496 = r / 4503599627370496 := by omega
        have e2 : (r + 1) % 4503599627370496 = r % 4503599627370496 + 1 := by omega
        rw [e1, e2]
        exact (Nat.mul_lt_mul_right (Nat.two_pow_pos _)).2 (by omega)
      · have e1 : (r + 1) / 4503599627370496 = r / 4503599627370496 + 1 := by omega
        have e2 : (r + 1) % 4503599627370496 = 0 := by omega
        rw [e1, e2]
        obtain ⟨q, hq⟩ : ∃ q, r / 4503599627370496 = q + 1 := ⟨r / 4503599627370496 - 1, by omega⟩
        rw [hq]
        show _ * 2 ^ q < (4503599627370496 + 0) * 2 ^ (q + 1)
        rw [Nat.pow_succ]
        have : 0 < 2 ^ q := Nat.two_pow_pos _
        have h4 : (4503599627370496 + r % 4503599627370496) * 2 ^ q < (2 * 4503599627370496) * 2 ^ q := (Nat.mul_lt_mul_right this).2 (by omega)
        omega
theorem vn_lt {r s : Nat} (h : r < s) : vn r < vn s := by
  induction s with
  | zero => omega
  | succ s ih =>
    rcases Nat.lt_or_ge r s with h1 | h1
    · exact Nat.lt_trans (ih h1) (vn_step s)
    · have : r = s := by omega
      subst this
      exact vn_step r
theorem vn_le {r s : Nat} (h : r ≤ s) : vn r ≤ vn s := by
  rcases Nat.lt_or_ge r s with h1 | h1
  · exact Nat.le_of_lt (vn_lt h1)
  · have : r = s := by omega
    subst this
    exact Nat.le_refl _
theorem vn_iff {r s : Nat} : vn r < vn s ↔ r < s := ⟨fun h => by
  rcases Nat.lt_or_ge r s with h1 | h1
  · exact h1
  · exact absurd h (Nat.not_lt.2 (vn_le h1)), vn_lt⟩
theorem vn_zero : vn 0 = 0 := by decide
/-- The endless one's rung. -/
def top : Nat := 9218868437227405312
theorem top_eq : double.infRung = top := by decide
theorem sw_eq : double.signWeight = 9223372036854775808 := by decide
theorem bin_eq : double.binade = 4503599627370496 := by decide
theorem lp_eq : double.leastPlace = -1074 := by decide
def neg (b : Nat) : Bool := b / 9223372036854775808 % 2 == 1
def rung (b : Nat) : Nat := b % 9223372036854775808
/-- What a word that is a number stands for. -/
theorem read_num {b : Nat} (h : rung b < top) : ∃ (m k : Nat), double.read b = .number (neg b) m (-1074 + (k : Int)) ∧ m * 2 ^ k = vn (rung b) := by
  unfold Format.read
  simp only [sw_eq, bin_eq, top_eq, lp_eq]
  show ∃ (m k : Nat), (if rung b < 4503599627370496 then _ else _) = _ ∧ _
  unfold vn
  by_cases h1 : rung b < 4503599627370496
  · rw [if_pos h1, if_pos h1]
    exact ⟨rung b, 0, by simp [neg, rung], by simp⟩
  · rw [if_neg h1, if_neg h1]
    have h' : b % 9223372036854775808 < top := h
    rw [if_pos h']
    exact ⟨_, _, rfl, rfl⟩
theorem read_inf {b : Nat} (h : rung b = top) : double.read b = .infinity (neg b) := by
  unfold Format.read
  simp only [sw_eq, bin_eq, top_eq, lp_eq]
  have h' : b % 9223372036854775808 = top := h
  rw [h', if_neg (by decide), if_neg (by decide), if_pos rfl]
  rfl
theorem read_nan {b : Nat} (h : top < rung b) : double.read b = .nan (neg b) (rung b - top) := by
  unfold Format.read
  simp only [sw_eq, bin_eq, top_eq, lp_eq]
  have h' : top < b % 9223372036854775808 := h
  have : (9223372036854775808 : Nat) > top := by decide
  have h2 : (4503599627370496 : Nat) < top := by decide
  rw [if_neg (by omega), if_neg (by omega), if_neg (by omega)]
  rfl
/-- A word's place in the order. -/
def key (b : Nat) : Int := if neg b then -(rung b : Int) else rung b
def sv (b : Nat) : Int := if neg b then -(vn (rung b) : Int) else vn (rung b)
theorem signed_eq (s : Bool) (m k : Nat) : signed s m k = (if s then -((m * 2 ^ k : Nat) : Int) else ((m * 2 ^ k : Nat) : Int)) := by
  unfold signed
  simp [Nat.shiftLeft_eq]
theorem compare_mul {a b c : Int} (hc : 0 < c) : compare (a * c) (b * c) = compare a b := by
  simp only [compare, compareOfLessAndEq]
  have h1 : a * c < b * c ↔ a < b := Int.mul_lt_mul_right hc
  have h2 : a * c = b * c ↔ a = b := ⟨fun h => Int.eq_of_mul_eq_mul_right (by omega) h, fun h => by rw [h]⟩
  simp [h1, h2]
theorem sv_key {x y : Nat} : compare (sv x) (sv y) = compare (key x) (key y) := by
  have hlt : ∀ r s, (vn r < vn s ↔ r < s) := fun r s => vn_iff
  have heq : ∀ r s, (vn r = vn s ↔ r = s) := fun r s => ⟨fun h => by
    rcases Nat.lt_trichotomy r s with a | a | a
    · exact absurd h (Nat.ne_of_lt (vn_lt a))
    · exact a
    · exact absurd h.symm (Nat.ne_of_lt (vn_lt a)), fun h => by rw [h]⟩
  have h0 : ∀ r, (vn r = 0 ↔ r = 0) := fun r => by have := heq r 0; rwa [vn_zero] at this
  have a1 := hlt (rung x) (rung y)
  have a2 := hlt (rung y) (rung x)
  have a3 := heq (rung x) (rung y)
  have a4 := h0 (rung x)
  have a5 := h0 (rung y)
  simp only [compare, compareOfLessAndEq, sv, key]
  have g : ∀ (p p' q q' : Int), (p < q ↔ p' < q') → (p = q ↔ p' = q') → (if p < q then Ordering.lt else if p = q then .eq else .gt) = (if p' < q' then Ordering.lt else if p' = q' then .eq else .gt) := fun p p' q q' h1 h2 => by simp only [h1, h2]
  apply g <;> cases neg x <;> cases neg y <;> simp only [if_true, if_false, Bool.false_eq_true] <;> omega
/-- Two words that are numbers, in their order. -/
theorem order_num {x y : Nat} (hx : rung x < top) (hy : rung y < top) : double.order x y = some (compare (key x) (key y)) := by
  obtain ⟨m, k, h1, h2⟩ := read_num hx
  obtain ⟨n, l, h3, h4⟩ := read_num hy
  unfold Format.order
  rw [h1, h3]
  simp only [Datum.order]
  rw [← sv_key]
  congr 1
  have e1 : (-1074 + (k : Int) - min (-1074 + (k : Int)) (-1074 + (l : Int))).toNat = k - min k l := by omega
  have e2 : (-1074 + (l : Int) - min (-1074 + (k : Int)) (-1074 + (l : Int))).toNat = l - min k l := by omega
  rw [e1, e2, signed_eq, signed_eq]
  have hp : (0 : Int) < ((2 ^ min k l : Nat) : Int) := by exact_mod_cast Nat.two_pow_pos _
  rw [← compare_mul hp]
  have f1 : m * 2 ^ (k - min k l) * 2 ^ min k l = vn (rung x) := by rw [Nat.mul_assoc, ← Nat.pow_add, Nat.sub_add_cancel (Nat.min_le_left _ _), h2]
  have f2 : n * 2 ^ (l - min k l) * 2 ^ min k l = vn (rung y) := by rw [Nat.mul_assoc, ← Nat.pow_add, Nat.sub_add_cancel (Nat.min_le_right _ _), h4]
  unfold sv
  rw [← f1, ← f2]
  congr 1
  · cases neg x <;> simp [Int.neg_mul]
  · cases neg y <;> simp [Int.neg_mul]
theorem order_nanl {x y : Nat} (hx : top < rung x) : double.order x y = none := by
  unfold Format.order
  rw [read_nan hx]
  cases double.read y <;> rfl
theorem key_range {x : Nat} (h : rung x < top) : -(top : Int) < key x ∧ key x < top := by
  unfold key
  split <;> omega
theorem order_infl {x y : Nat} (hx : rung x = top) (hy : rung y < top) : double.order x y = some (compare (key x) (key y)) := by
  obtain ⟨m, k, h1, h2⟩ := read_num hy
  have := key_range hy
  unfold Format.order
  rw [read_inf hx, h1]
  simp only [Datum.order]
  congr 1
  have hk : key x = if neg x then -(top : Int) else top := by unfold key; rw [hx]
  rw [hk]
  simp only [compare, compareOfLessAndEq]
  cases neg x
  · simp only [Bool.false_eq_true, if_false]
    rw [if_neg (by omega), if_neg (by omega)]
  · simp only [if_true]
    rw [if_pos (by omega)]
theorem order_infr {x y : Nat} (hx : rung x < top) (hy : rung y = top) : double.order x y = some (compare (key x) (key y)) := by
  obtain ⟨m, k, h1, h2⟩ := read_num hx
  have := key_range hx
  unfold Format.order
  rw [read_inf hy, h1]
  simp only [Datum.order]
  congr 1
  have hk : key y = if neg y then -(top : Int) else top := by unfold key; rw [hy]
  rw [hk]
  simp only [compare, compareOfLessAndEq]
  cases neg y
  · simp only [Bool.false_eq_true, if_false]
    rw [if_pos (by omega)]
  · simp only [if_true]
    rw [if_neg (by omega), if_neg (by omega)]
theorem order_inf2 {x y : Nat} (hx : rung x = top) (hy : rung y = top) : double.order x y = some (compare (key x) (key y)) := by
  unfold Format.order
  rw [read_inf hx, read_inf hy]
  simp only [Datum.order]
  congr 1
  have hk : key x = if neg x then -(top : Int) else top := by unfold key; rw [hx]
  have hl : key y = if neg y then -(top : Int) else top := by unfold key; rw [hy]
  rw [hk, hl]
  cases neg x <;> cases neg y <;> decide
/-- Two words, neither of which is none, in their order. -/
theorem order_key {x y : Nat} (hx : rung x ≤ top) (hy : rung y ≤ top) : double.order x y = some (compare (key x) (key y)) := by
  rcases Nat.lt_or_ge (rung x) top with h1 | h1 <;> rcases Nat.lt_or_ge (rung y) top with h2 | h2
  · exact order_num h1 h2
  · exact order_infr h1 (by omega)
  · exact order_infl (by omega) h2
  · exact order_inf2 (by omega) (by omega)
theorem log2_of {n k : Nat} (h1 : 2 ^ k ≤ n) (h2 : n < 2 ^ (k + 1)) : n.log2 = k := by
  have h0 : n ≠ 0 := by have := Nat.two_pow_pos k; omega
  have a := (Nat.le_log2 h0 (k := k)).2 h1
  have b := (Nat.log2_lt h0 (k := k + 1)).2 h2
  omega
theorem log2_mul {n k : Nat} (h : n ≠ 0) : (n * 2 ^ k).log2 = n.log2 + k := by
  refine log2_of ?_ ?_
  · rw [Nat.pow_add]; exact Nat.mul_le_mul_right _ (Nat.log2_self_le h)
  · rw [show n.log2 + k + 1 = (n.log2 + 1) + k by omega, Nat.pow_add]; exact Nat.mul_lt_mul_of_pos_right Nat.lt_log2_self (Nat.two_pow_pos _)
/-- How far a rung's last digit lies above the least place. -/
def lift (r : Nat) : Nat := if r < 4503599627370496 then 0 else r / 4503599627370496 - 1
def mant (r : Nat) : Nat := if r < 4503599627370496 then r else 4503599627370496 + r % 4503599627370496
theorem vn_mant (r : Nat) : vn r = mant r * 2 ^ lift r := by unfold vn mant lift; split <;> simp
theorem mant_lift (r : Nat) : lift r * 4503599627370496 + mant r = r := by unfold mant lift; split <;> omega
theorem mant_log (r : Nat) (hr : r ≠ 0) : max ((vn r).log2 - 52) 0 = lift r := by
  have h0 : mant r ≠ 0 := by unfold mant; split <;> omega
  rw [vn_mant, log2_mul h0]
  unfold mant lift
  split
  · rename_i h
    have : r.log2 < 52 := (Nat.log2_lt hr).2 h
    omega
  · rename_i h
    have : (4503599627370496 + r % 4503599627370496).log2 = 52 := log2_of (by omega) (by omega)
    rw [this]
    omega
theorem cut_exact {neg : Bool} {n q d : Nat} (h : n = q * 2 ^ d) : Toward.even.cut neg n d = q := by
  unfold Toward.cut
  by_cases h0 : q = 0
  · subst h0
    simp [h]
  · have hd : min d (n.log2 + 2) = d := by rw [h, log2_mul h0]; omega
    rw [hd, Nat.shiftLeft_eq, Nat.one_mul]
    have h1 : n / 2 ^ d = q := by rw [h]; exact Nat.mul_div_cancel _ (Nat.two_pow_pos _)
    have h2 : n % 2 ^ d = 0 := by rw [h]; exact Nat.mul_mod_left _ _
    have h3 : 0 < 2 ^ d := Nat.two_pow_pos _
    simp only [h1, h2]
    have : (decide (2 ^ d < 2 * 0) || 2 ^ d == 2 * 0 && q % 2 == 1) = false := by
      simp
    rw [this]
    rfl
/-- What a rung stands for is written as that rung. -/
theorem nearest_vn {s : Bool} {m u v r : Nat} {p : Int} (hr : r ≤ top) (h : m * 2 ^ u = vn r * 2 ^ v) (hp : p = -1074 + (u : Int) - v) : double.nearest s m p = double.word s r := by
  by_cases hm : m = 0
  · have : r = 0 := by
      rw [hm, Nat.zero_mul] at h
      have : vn r = 0 := by
        rcases Nat.mul_eq_zero.1 h.symm with h | h
        · exact h
        · exact absurd h (Nat.ne_of_gt (Nat.two_pow_pos _))
      rcases Nat.eq_zero_or_pos r with h | h
      · exact h
      · have := vn_lt h; rw [vn_zero] at this; omega
    subst this
    unfold Format.nearest
    rw [if_pos hm]
  · have hv : vn r ≠ 0 := fun e => by
      rw [e, Nat.zero_mul] at h
      rcases Nat.mul_eq_zero.1 h with h | h
      · exact hm h
      · exact absurd h (Nat.ne_of_gt (Nat.two_pow_pos _))
    have hr0 : r ≠ 0 := fun e => hv (by rw [e]; exact vn_zero)
    have hlog : m.log2 + u = (vn r).log2 + v := by rw [← log2_mul hm, ← log2_mul hv, h]
    have hl := mant_log r hr0
    unfold Format.nearest
    rw [if_neg hm]
    simp only [lp_eq, bin_eq, top_eq, show (double.fractionBits : Int) = 52 from rfl]
    have hlast : max (p + (m.log2 : Int) - 52) (-1074) = -1074 + (lift r : Int) := by omega
    rw [hlast]
    have hcut : Toward.even.cut s (m <<< (p - (-1074 + (lift r : Int))).toNat) (-1074 + (lift r : Int) - p).toNat = mant r := by
      refine cut_exact ?_
      rw [Nat.shiftLeft_eq]
      rw [vn_mant] at h
      rcases Nat.le_total (v + lift r) u with h1 | h1
      · have e1 : (p - (-1074 + (lift r : Int))).toNat = u - (v + lift r) := by omega
        have e2 : (-1074 + (lift r : Int) - p).toNat = 0 := by omega
        rw [e1, e2, Nat.pow_zero, Nat.mul_one]
        refine Nat.eq_of_mul_eq_mul_right (Nat.two_pow_pos (v + lift r)) ?_
        rw [Nat.mul_assoc, ← Nat.pow_add, Nat.sub_add_cancel h1, h, Nat.mul_assoc, ← Nat.pow_add, Nat.add_comm v]
      · have e1 : (p - (-1074 + (lift r : Int))).toNat = 0 := by omega
        have e2 : (-1074 + (lift r : Int) - p).toNat = v + lift r - u := by omega
        rw [e1, e2, Nat.pow_zero, Nat.mul_one]
        refine Nat.eq_of_mul_eq_mul_right (Nat.two_pow_pos u) ?_
        rw [h, Nat.mul_assoc, Nat.mul_assoc, ← Nat.pow_add, ← Nat.pow_add, Nat.sub_add_cancel h1, Nat.add_comm v]
    rw [hcut]
    have e3 : (-1074 + (lift r : Int) - -1074).toNat = lift r := by omega
    rw [e3]
    have := mant_lift r
    have e4 : lift r * 4503599627370496 + mant r = r := this
    rw [e4, Nat.min_eq_left hr]
end Go.Proofs.Ytcdkopidgibijaa.Flo
