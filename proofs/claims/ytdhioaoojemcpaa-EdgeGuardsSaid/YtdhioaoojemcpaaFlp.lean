/- What the walked forms on floating-point numbers are. -/
import Derived.Test.YtdhioaoojemcpaaFlm
import Derived.Test.YtdhioaoojemcpaaRat
namespace Go.Proofs.Ytdhioaoojemcpaa.Flo
open Go Go.RowKit Go.Proofs.Ytdhioaoojemcpaa.Lin Ieee
theorem wrapU {n : Int} (h0 : 0 ≤ n) (h1 : n < 18446744073709551616) : IntKind.u64.wrap n = n := by simp [IntKind.wrap, IntKind.bits, IntKind.signed]; omega
theorem wrap64_id {n : Int} (h0 : -9223372036854775808 ≤ n) (h1 : n < 9223372036854775808) : wrap64 n = n := by unfold wrap64; omega
theorem bits_and {a b : Nat} (ha : a < 18446744073709551616) (hb : b < 18446744073709551616) : bits .and .u64 (a : Int) (b : Int) = ((a &&& b : Nat) : Int) := by
  show IntKind.u64.wrap (((BitVec.ofInt 64 (a : Int) &&& BitVec.ofInt 64 (b : Int)).toNat : Nat) : Int) = _
  rw [BitVec.ofInt_natCast, BitVec.ofInt_natCast, BitVec.toNat_and, BitVec.toNat_ofNat, BitVec.toNat_ofNat]
  rw [Nat.mod_eq_of_lt (by simpa using ha), Nat.mod_eq_of_lt (by simpa using hb)]
  refine wrapU (by omega) ?_
  have := Nat.and_le_left (n := a) (m := b)
  omega
theorem bits_or {a b : Nat} (ha : a < 18446744073709551616) (hb : b < 18446744073709551616) : bits .or .u64 (a : Int) (b : Int) = ((a ||| b : Nat) : Int) := by
  show IntKind.u64.wrap (((BitVec.ofInt 64 (a : Int) ||| BitVec.ofInt 64 (b : Int)).toNat : Nat) : Int) = _
  rw [BitVec.ofInt_natCast, BitVec.ofInt_natCast, BitVec.toNat_or, BitVec.toNat_ofNat, BitVec.toNat_ofNat]
  rw [Nat.mod_eq_of_lt (by simpa using ha), Nat.mod_eq_of_lt (by simpa using hb)]
  refine wrapU (by omega) ?_
  have := Nat.or_lt_two_pow (n := 64) (x := a) (y := b) ha hb
  have e : (2 : Nat) ^ 64 = 18446744073709551616 := by decide
  omega
theorem bits_andNot {a b : Nat} (ha : a < 18446744073709551616) (hb : b < 18446744073709551616) : bits .andNot .u64 (a : Int) (b : Int) = ((a &&& (18446744073709551615 - b) : Nat) : Int) := by
  show IntKind.u64.wrap (((BitVec.ofInt 64 (a : Int) &&& ~~~BitVec.ofInt 64 (b : Int)).toNat : Nat) : Int) = _
  rw [BitVec.ofInt_natCast, BitVec.ofInt_natCast, BitVec.toNat_and, BitVec.toNat_not, BitVec.toNat_ofNat, BitVec.toNat_ofNat]
  rw [Nat.mod_eq_of_lt (by simpa using ha), Nat.mod_eq_of_lt (by simpa using hb)]
  have e : (2 : Nat) ^ 64 - 1 - b = 18446744073709551615 - b := by rw [show (2 : Nat) ^ 64 = 18446744073709551616 by decide]
  rw [e]
  refine wrapU (by omega) ?_
  have := Nat.and_le_left (n := a) (m := 18446744073709551615 - b)
  omega
theorem and63 (a : Nat) : a &&& 9223372036854775807 = a % 9223372036854775808 := Nat.and_two_pow_sub_one_eq_mod a 63
theorem and52 (a : Nat) : a &&& 4503599627370495 = a % 4503599627370496 := Nat.and_two_pow_sub_one_eq_mod a 52
theorem and11 (a : Nat) : a &&& 2047 = a % 2048 := Nat.and_two_pow_sub_one_eq_mod a 11
theorem andM {a : Nat} (h : a < 9223372036854775808) : a &&& 9227875636482146303 = a % 4503599627370496 := by
  have e : a &&& 9227875636482146303 = (a &&& 9223372036854775807) &&& 9227875636482146303 := by rw [and63, Nat.mod_eq_of_lt h]
  rw [e, Nat.and_assoc, show (9223372036854775807 &&& 9227875636482146303 : Nat) = 4503599627370495 by decide, and52]
theorem orM {f q : Nat} (h : f < 4503599627370496) : f ||| q * 4503599627370496 = q * 4503599627370496 + f := by
  have := Nat.two_pow_add_eq_or_of_lt (i := 52) (b := f) h q
  rw [Nat.or_comm, Nat.mul_comm]
  exact this.symm
theorem absR_eq {b : Nat} (hb : b < 18446744073709551616) : absR b = rung b := by
  unfold absR rung
  have := bits_andNot hb (b := 9223372036854775808) (by decide)
  rw [show ((9223372036854775808 : Nat) : Int) = 9223372036854775808 from rfl] at this
  rw [this]
  simp [and63]
  omega
/-! ### The order, told -/
theorem cmp_lt (a b : Int) : (some (compare a b) == some .lt) = decide (a < b) := by
  simp only [compare, compareOfLessAndEq]
  by_cases h : a < b
  · simp [h]
  · by_cases h2 : a = b <;> simp [h, h2]
theorem cmp_eq (a b : Int) : (some (compare a b) == some .eq) = decide (a = b) := by
  simp only [compare, compareOfLessAndEq]
  by_cases h : a < b
  · have : a ≠ b := by omega
    simp [h, this]
  · by_cases h2 : a = b <;> simp [h, h2]
theorem cmp_gt (a b : Int) : (some (compare a b) == some .gt) = decide (b < a) := by
  simp only [compare, compareOfLessAndEq]
  by_cases h : a < b
  · have : ¬ b < a := by omega
    simp [h, this]
  · by_cases h2 : a = b
    · simp [h2]
    · have : b < a := by omega
      simp [h, h2, this]
theorem ord_lt {x y : Nat} (hx : rung x ≤ top) (hy : rung y ≤ top) : (double.order x y == some .lt) = decide (key x < key y) := by rw [order_key hx hy, cmp_lt]
theorem ord_eq {x y : Nat} (hx : rung x ≤ top) (hy : rung y ≤ top) : (double.order x y == some .eq) = decide (key x = key y) := by rw [order_key hx hy, cmp_eq]
theorem ord_gt {x y : Nat} (hx : rung x ≤ top) (hy : rung y ≤ top) : (double.order x y == some .gt) = decide (key y < key x) := by rw [order_key hx hy, cmp_gt]
theorem rung_of {x : Nat} (h : x < 9223372036854775808) : rung x = x := Nat.mod_eq_of_lt h
theorem neg_of {x : Nat} (h : x < 9223372036854775808) : neg x = false := by unfold neg; rw [Nat.div_eq_of_lt h]; rfl
theorem key_of {x : Nat} (h : x < 9223372036854775808) : key x = x := by unfold key; rw [neg_of h, rung_of h]; rfl
theorem vn_mul {q : Nat} (hq : 0 < q) {f : Nat} (hf : f < 4503599627370496) : vn (q * 4503599627370496 + f) = (4503599627370496 + f) * 2 ^ (q - 1) := by
  unfold vn
  rw [if_neg (by omega), show (q * 4503599627370496 + f) % 4503599627370496 = f by omega, show (q * 4503599627370496 + f) / 4503599627370496 = q by omega]
/-- The product of two numbers that are not below 0. -/
theorem mul_vn {x y r K : Nat} (hx : x < top) (hy : y < top) (hr : r ≤ top) (hK : K = 1074) (h : vn x * vn y = vn r * 2 ^ K) : double.mul x y = some r := by
  have hx' : x < 9223372036854775808 := Nat.lt_trans hx (by decide)
  have hy' : y < 9223372036854775808 := Nat.lt_trans hy (by decide)
  obtain ⟨m, k, h1, h2⟩ := read_num (b := x) (by rw [rung_of hx']; exact hx)
  obtain ⟨n, l, h3, h4⟩ := read_num (b := y) (by rw [rung_of hy']; exact hy)
  rw [rung_of hx'] at h2
  rw [rung_of hy'] at h4
  unfold Format.mul
  rw [h1, h3, neg_of hx', neg_of hy']
  simp only [Datum.product, Option.map_some, Format.write]
  rw [nearest_vn (s := false ^^ false) (r := r) (u := k + l) (v := K) hr (by rw [← h, ← h2, ← h4, Nat.pow_add, Nat.mul_mul_mul_comm]) (by omega)]
  rfl
/-! ### A number taken apart -/
def sig (y : Nat) : Nat := if y < 4503599627370496 then y * 2 ^ (52 - y.log2) else 4503599627370496 + y % 4503599627370496
def ex (y : Nat) : Int := if y < 4503599627370496 then (y.log2 : Int) - 1073 else ((y / 4503599627370496 : Nat) : Int) - 1022
theorem log_lt {y : Nat} (h0 : 0 < y) (h : y < 4503599627370496) : y.log2 ≤ 51 := by
  have := (Nat.log2_lt (n := y) (by omega) (k := 52)).2 h
  omega
theorem sig_range {y : Nat} (h0 : 0 < y) : 4503599627370496 ≤ sig y ∧ sig y < 9007199254740992 := by
  unfold sig
  split
  · rename_i h
    have hl := log_lt h0 h
    have h1 := Nat.log2_self_le (n := y) (by omega)
    have h2 := Nat.lt_log2_self (n := y)
    constructor
    · calc 4503599627370496 = 2 ^ y.log2 * 2 ^ (52 - y.log2) := by rw [← Nat.pow_add, Nat.add_sub_cancel' (by omega)]
        _ ≤ _ := Nat.mul_le_mul_right _ h1
    · calc y * 2 ^ (52 - y.log2) < 2 ^ (y.log2 + 1) * 2 ^ (52 - y.log2) := Nat.mul_lt_mul_of_pos_right h2 (Nat.two_pow_pos _)
        _ = 9007199254740992 := by rw [← Nat.pow_add, show y.log2 + 1 + (52 - y.log2) = 53 by omega]
  · omega
/-- What the number taken apart stands for. -/
theorem sig_val {y n K : Nat} (h0 : 0 < y) (hK : K = 1074) (hn : ex y - 53 = -(n : Int)) : vn y * 2 ^ n = sig y * 2 ^ K := by
  unfold ex at hn
  unfold sig vn
  split at hn
  · rename_i h
    have hl := log_lt h0 h
    rw [if_pos h, if_pos h, Nat.mul_assoc, ← Nat.pow_add]
    congr 2
    omega
  · rename_i h
    have : 0 < y / 4503599627370496 := Nat.div_pos (by omega) (by decide)
    rw [if_neg h, if_neg h, Nat.mul_assoc, ← Nat.pow_add]
    congr 2
    omega
theorem sig_val2 {y n K : Nat} (hK : K = 1074) (hn : ex y - 53 = (n : Int)) : vn y = sig y * 2 ^ (n + K) := by
  unfold ex at hn
  unfold sig vn
  split at hn
  · rename_i h
    exfalso
    have : y.log2 ≤ 52 := by
      by_cases h0 : y = 0
      · subst h0; decide
      · have := log_lt (Nat.pos_of_ne_zero h0) h; omega
    omega
  · rename_i h
    have : 0 < y / 4503599627370496 := Nat.div_pos (by omega) (by decide)
    rw [if_neg h, if_neg h]
    congr 2
    omega
/-! ### Frexp and Ldexp -/
theorem andNotM {c : Nat} (h : c < 9223372036854775808) : bits .andNot .u64 (c : Int) 9218868437227405312 = ((c % 4503599627370496 : Nat) : Int) := by
  have := bits_andNot (a := c) (b := 9218868437227405312) (by omega) (by decide)
  rw [show ((9218868437227405312 : Nat) : Int) = 9218868437227405312 from rfl] at this
  rw [this, show 18446744073709551615 - 9218868437227405312 = 9227875636482146303 from rfl, andM h]
theorem frR_eq {c : Nat} (h : c < 9223372036854775808) : frR c = 1022 * 4503599627370496 + c % 4503599627370496 := by
  unfold frR
  rw [andNotM h]
  have hf : c % 4503599627370496 < 4503599627370496 := Nat.mod_lt _ (by decide)
  have := bits_or (a := c % 4503599627370496) (b := 4602678819172646912) (by omega) (by decide)
  rw [show ((4602678819172646912 : Nat) : Int) = 4602678819172646912 from rfl] at this
  rw [this, Int.toNat_natCast]
  exact orM (q := 1022) hf
theorem exR_eq {c : Nat} {e : Int} (h : c < 9223372036854775808) (he : -1000 ≤ e ∧ e ≤ 1000) : exR c e = e + ((c / 4503599627370496 : Nat) : Int) - 1022 := by
  unfold exR
  rw [show (2 : Int) ^ 52 = 4503599627370496 by decide]
  have hc : (c : Int) / 4503599627370496 = ((c / 4503599627370496 : Nat) : Int) := by omega
  have hq : c / 4503599627370496 < 2048 := by omega
  rw [hc]
  have := bits_and (a := c / 4503599627370496) (b := 2047) (by omega) (by decide)
  rw [show ((2047 : Nat) : Int) = 2047 from rfl] at this
  rw [this, and11, Nat.mod_eq_of_lt hq]
  generalize c / 4503599627370496 = q at *
  unfold wrap64
  omega
theorem leR_eq {c : Nat} (h : c < 9223372036854775808) : leR c 53 0 = ((c / 4503599627370496 : Nat) : Int) - 970 := by
  unfold leR
  rw [show (2 : Int) ^ 52 = 4503599627370496 by decide]
  have hc : (c : Int) / 4503599627370496 = ((c / 4503599627370496 : Nat) : Int) := by omega
  have hq : c / 4503599627370496 < 2048 := by omega
  rw [hc, wrap64_id (n := ((c / 4503599627370496 : Nat) : Int)) (by omega) (by omega)]
  have hb : bits .and .i64 ((c / 4503599627370496 : Nat) : Int) 2047 = ((c / 4503599627370496 : Nat) : Int) := by
    show IntKind.i64.wrap (((BitVec.ofInt 64 ((c / 4503599627370496 : Nat) : Int) &&& BitVec.ofInt 64 ((2047 : Nat) : Int)).toNat : Nat) : Int) = _
    rw [BitVec.ofInt_natCast, BitVec.ofInt_natCast, BitVec.toNat_and, BitVec.toNat_ofNat, BitVec.toNat_ofNat, Nat.mod_eq_of_lt (by omega), Nat.mod_eq_of_lt (by decide), and11, Nat.mod_eq_of_lt hq]
    rw [Go.Proofs.YtdhioaoojemcpaaW.PrintLast.i64_w]
    exact wrap64_id (by omega) (by omega)
  rw [hb]
  generalize c / 4503599627370496 = q at *
  unfold wrap64
  omega
theorem lbR_eq {c : Nat} (h : c < 9223372036854775808) : lbR c 52 = 1075 * 4503599627370496 + c % 4503599627370496 := by
  unfold lbR
  rw [andNotM h]
  have hf : c % 4503599627370496 < 4503599627370496 := Nat.mod_lt _ (by decide)
  have e : IntKind.u64.wrap (IntKind.u64.wrap (wrap64 (52 + 1023)) * 2 ^ 52) = ((1075 * 4503599627370496 : Nat) : Int) := by
    rw [show (2 : Int) ^ 52 = 4503599627370496 by decide, wrap64_id (by decide) (by decide), wrapU (by decide) (by decide), wrapU (by decide) (by decide)]
    rfl
  rw [e, bits_or (a := c % 4503599627370496) (b := 1075 * 4503599627370496) (by omega) (by decide), Int.toNat_natCast]
  exact orM hf
theorem eq0_false {y : Nat} (h0 : 0 < y) (h1 : y < top) : (double.order y 0 == some .eq) = false := by
  have hy : y < 9223372036854775808 := Nat.lt_trans h1 (by decide)
  rw [ord_eq (by rw [rung_of hy]; omega) (by decide), key_of hy, key_of (x := 0) (by decide)]
  exact decide_eq_false (by omega)
theorem inf_false {y : Nat} (h1 : y < top) : infR (absR y) = false := by
  have hy : y < 9223372036854775808 := Nat.lt_trans h1 (by decide)
  unfold top at h1
  unfold infR
  rw [absR_eq (by omega), rung_of hy, ord_gt (by rw [rung_of hy]; unfold top; omega) (by decide), key_of hy, key_of (x := 9218868437227405311) (by decide)]
  exact decide_eq_false (by omega)
theorem nan_false {y : Nat} (h1 : rung y ≤ top) : (double.order y y != some .eq) = false := by
  have := ord_eq h1 h1
  rw [decide_eq_true rfl] at this
  unfold bne
  rw [this]
  rfl
theorem small_eq {y : Nat} (h1 : y < top) : (double.order (absR y) 4503599627370496 == some .lt) = decide (y < 4503599627370496) := by
  have hy : y < 9223372036854775808 := Nat.lt_trans h1 (by decide)
  rw [absR_eq (by omega), rung_of hy, ord_lt (by rw [rung_of hy]; omega) (by decide), key_of hy, key_of (x := 4503599627370496) (by decide)]
  exact decide_eq_decide.2 (by omega)
/-- A number that is not below 0, taken apart. -/
theorem Frexp_t {y : Nat} (h0 : 0 < y) (h1 : y < top) : Tl Try.prog 38 [.one (.val (.float .f64 y))] (.tup [.one (.val (.float .f64 (1021 * 4503599627370496 + sig y))), .one (.val (.int .i64 (ex y)))]) := by
  have hy : y < 9223372036854775808 := Nat.lt_trans h1 (by decide)
  have hs := sig_range h0
  refine frexp_t ?_
  by_cases hm : y < 4503599627370496
  · have hl := log_lt h0 hm
    obtain ⟨c, hc⟩ : ∃ c, c = (y.log2 + 1) * 4503599627370496 + (sig y - 4503599627370496) := ⟨_, rfl⟩
    have hcb : c < 9223372036854775808 := by omega
    have hmul : double.mul y 4841369599423283200 = some c := by
      obtain ⟨K, hK⟩ : ∃ K, K = 1074 := ⟨_, rfl⟩
      refine mul_vn h1 (by decide) (by unfold top; omega) hK ?_
      rw [hc, vn_mul (by omega) (by omega), show (4841369599423283200 : Nat) = 1075 * 4503599627370496 + 0 from rfl, vn_mul (by decide) (by decide)]
      have e : vn y = y := by unfold vn; rw [if_pos hm]
      have e2 : sig y = y * 2 ^ (52 - y.log2) := by unfold sig; rw [if_pos hm]
      rw [e, show 4503599627370496 + (sig y - 4503599627370496) = sig y by omega, e2, Nat.mul_assoc y, ← Nat.pow_add, show 52 - y.log2 + (y.log2 + 1 - 1) = 52 by omega, show 1075 - 1 = K by omega]
      rw [← Nat.mul_assoc]
    have := frexp1_t (eq0_false h0 h1) (inf_false h1) (nan_false (by rw [rung_of hy]; omega)) (norm_sub (by rw [small_eq h1]; exact decide_eq_true hm) hmul)
    rw [frR_eq hcb, exR_eq hcb (by omega)] at this
    have e1 : 1022 * 4503599627370496 + c % 4503599627370496 = 1021 * 4503599627370496 + sig y := by omega
    have e2 : -52 + ((c / 4503599627370496 : Nat) : Int) - 1022 = ex y := by unfold ex; rw [if_pos hm]; omega
    rw [e1, e2] at this
    exact this
  · have := frexp1_t (eq0_false h0 h1) (inf_false h1) (nan_false (by rw [rung_of hy]; omega)) (norm_nrm (by rw [small_eq h1]; exact decide_eq_false hm))
    rw [frR_eq hy, exR_eq hy (by omega)] at this
    have e1 : 1022 * 4503599627370496 + y % 4503599627370496 = 1021 * 4503599627370496 + sig y := by unfold sig; rw [if_neg hm]; omega
    have e2 : 0 + ((y / 4503599627370496 : Nat) : Int) - 1022 = ex y := by unfold ex; rw [if_neg hm]; omega
    rw [e1, e2] at this
    exact this
theorem mul1 {f : Nat} (hf : f < 4503599627370496) : double.mul 4607182418800017408 (1075 * 4503599627370496 + f) = some (1075 * 4503599627370496 + f) := by
  obtain ⟨K, hK⟩ : ∃ K, K = 1074 := ⟨_, rfl⟩
  refine mul_vn (by decide) (by unfold top; omega) (by unfold top; omega) hK ?_
  have h1 : vn 4607182418800017408 = 2 ^ K := by
    rw [show (4607182418800017408 : Nat) = 1023 * 4503599627370496 + 0 from rfl, vn_mul (by decide) (by decide)]
    obtain ⟨J, hJ⟩ : ∃ J, J = 1023 - 1 := ⟨_, rfl⟩
    rw [← hJ, show (4503599627370496 + 0 : Nat) = 2 ^ 52 by decide, ← Nat.pow_add, show 52 + J = K by omega]
  rw [h1, Nat.mul_comm]
theorem Ldexp_t {s : Nat} (h0 : 4503599627370496 ≤ s) (h1 : s < 9007199254740992) : Tl Try.prog 41 [.one (.val (.float .f64 (1021 * 4503599627370496 + s))), .one (.val (.int .i64 53))] (.el (.one (.val (.float .f64 (1074 * 4503599627370496 + s))))) := by
  obtain ⟨x, hx⟩ : ∃ x, x = 1021 * 4503599627370496 + s := ⟨_, rfl⟩
  rw [← hx]
  have hxb : x < 9223372036854775808 := by omega
  have hxt : x < top := by unfold top; omega
  refine ldexp_t ?_
  have hle : leR x 53 0 = 52 := by rw [leR_eq hxb]; omega
  have hm : x % 4503599627370496 < 4503599627370496 := Nat.mod_lt _ (by decide)
  have hlb : lbR x (leR x 53 0) = 1075 * 4503599627370496 + x % 4503599627370496 := by rw [hle]; exact lbR_eq hxb
  have := ldexp1_t (e := 53) (eq0_false (y := x) (by omega) hxt) (inf_false hxt) (nan_false (by rw [rung_of hxb]; omega)) (norm_nrm (by rw [small_eq hxt]; exact decide_eq_false (by omega))) (by rw [hle]; decide) (by rw [hle]; decide) (by rw [hle]; decide) (r := 1075 * 4503599627370496 + x % 4503599627370496) (by rw [hlb]; exact mul1 hm)
  rw [show 1075 * 4503599627370496 + x % 4503599627370496 = 1074 * 4503599627370496 + s by omega] at this
  exact this
theorem toInt_eq {s : Nat} (h0 : 4503599627370496 ≤ s) (h1 : s < 9007199254740992) : floatToIntVal .f64 (1074 * 4503599627370496 + s) .u64 = some (s : Int) := by
  have hr : double.read (1074 * 4503599627370496 + s) = .number false s 0 := by
    unfold Format.read
    simp only [sw_eq, bin_eq, top_eq, lp_eq]
    have e1 : (1074 * 4503599627370496 + s) / 9223372036854775808 = 0 := by omega
    have e2 : (1074 * 4503599627370496 + s) % 9223372036854775808 = 1074 * 4503599627370496 + s := by omega
    have e3 : (1074 * 4503599627370496 + s) / 4503599627370496 = 1075 := by omega
    have e4 : 4503599627370496 + (1074 * 4503599627370496 + s) % 4503599627370496 = s := by omega
    rw [e1, e2, if_neg (by omega), if_pos (by unfold top; omega), e3, e4]
    rfl
  have h2 : (FloatKind.f64.decode (1074 * 4503599627370496 + s)).toInt .zero = some (s : Int) := by
    show (double.read (1074 * 4503599627370496 + s)).toInt .zero = some (s : Int)
    rw [hr]
    unfold Datum.toInt Datum.integral Toward.cut signed
    simp
  have e : IntKind.u64.min ≤ (s : Int) ∧ (s : Int) ≤ IntKind.u64.max := by
    have a : IntKind.u64.min = 0 := by decide
    have b : IntKind.u64.max = 18446744073709551615 := by decide
    rw [a, b]
    omega
  generalize 1074 * 4503599627370496 + s = z at *
  unfold floatToIntVal
  rw [h2]
  exact if_pos e
end Go.Proofs.Ytdhioaoojemcpaa.Flo
