/- Whole numbers with a sign, in plain Lean: what is kept of them, and their texts. -/
import Derived.Test.YtcdkopidgibijaaNum
import Derived.Test.YtcdkopidgibijaaDec
import Derived.Test.YtcdkopidgibijaaWMore
namespace Go.Proofs.Ytcdkopidgibijaa.Zn
open Go.RowKit Go.Proofs.YtcdkopidgibijaaW.PrintWords

/-- The number of a sign and a size. -/
def zv (m : Bool) (n : Nat) : Int := if m = true then -(n : Int) else (n : Int)
/-- A number, as it is told. -/
def zd (z : Int) : Bool × List Int := (decide (z < 0), Num.nd z.natAbs)
/-- A number's text. -/
def tz (z : Int) : ByteArray := if z < 0 then (⟨#[45]⟩ : ByteArray) ++ Dec.dec z.natAbs else Dec.dec z.natAbs

theorem natAbs_zv (m : Bool) (n : Nat) : (zv m n).natAbs = n := by
  cases m
  · show (n : Int).natAbs = n
    omega
  · show (-(n : Int)).natAbs = n
    omega
theorem zv_neg (m : Bool) (n : Nat) : zv m n < 0 ↔ m = true ∧ n ≠ 0 := by
  cases m
  · show (n : Int) < 0 ↔ _
    simp
  · show -(n : Int) < 0 ↔ _
    simp
    omega
theorem zv_zero (m : Bool) : zv m 0 = 0 := by cases m <;> rfl
theorem zv_false (n : Nat) : zv false n = (n : Int) := rfl
theorem zv_true (n : Nat) : zv true n = -(n : Int) := rfl
theorem zv_eq0 (m : Bool) (n : Nat) : zv m n = 0 ↔ n = 0 := by
  cases m
  · rw [zv_false]; omega
  · rw [zv_true]; omega
theorem zv_pos (m : Bool) (n : Nat) : 0 < zv m n ↔ m = false ∧ n ≠ 0 := by
  cases m
  · rw [zv_false]; simp; omega
  · rw [zv_true]; simp
theorem zv_self (z : Int) : zv (decide (z < 0)) z.natAbs = z := by
  by_cases h : z < 0
  · rw [decide_eq_true h, zv_true]; omega
  · rw [decide_eq_false h, zv_false]; omega
theorem zv_not (m : Bool) (n : Nat) : zv (!m) n = - zv m n := by
  cases m
  · rfl
  · show (n : Int) = - - (n : Int)
    omega
theorem zd_zv (m : Bool) (n : Nat) : zd (zv m n) = (decide (m = true ∧ n ≠ 0), Num.nd n) := by
  unfold zd
  rw [natAbs_zv]
  congr 1
  exact decide_eq_decide.2 (zv_neg m n)
theorem sign_zv (m : Bool) (n : Nat) : (zv m n).sign = if n = 0 then 0 else if m = true then -1 else 1 := by
  by_cases h : n = 0
  · subst h
    rw [zv_zero, if_pos rfl]
    rfl
  · rw [if_neg h]
    cases m
    · rw [zv_false, if_neg (by decide)]
      exact Int.sign_eq_one_of_pos (by omega)
    · rw [zv_true, if_pos rfl]
      exact Int.sign_eq_neg_one_of_neg (by omega)
theorem sign_mul_neg (a b : Int) : a.sign * b.sign < 0 ↔ a * b < 0 := by
  rw [← Int.sign_mul]
  constructor
  · intro h
    exact Int.neg_of_sign_eq_neg_one (by
      rcases Int.lt_trichotomy (a * b) 0 with h1 | h1 | h1
      · exact Int.sign_eq_neg_one_of_neg h1
      · rw [h1] at h; exact absurd h (by decide)
      · rw [Int.sign_eq_one_of_pos h1] at h; exact absurd h (by decide))
  · intro h
    rw [Int.sign_eq_neg_one_of_neg h]
    decide
theorem tz_neg {z : Int} (h : z < 0) : tz z = (⟨#[45]⟩ : ByteArray) ++ Dec.dec z.natAbs := if_pos h
theorem tz_pos {z : Int} (h : ¬ z < 0) : tz z = Dec.dec z.natAbs := if_neg h
theorem tz_nat (n : Nat) : tz (n : Int) = Dec.dec n := by
  rw [tz_pos (by omega), show (n : Int).natAbs = n from by omega]
theorem dec_size (n : Nat) : (Dec.dec n).size = (Dec.dc n).length := Dec.tx_size _
theorem dec_size_pos (n : Nat) : 0 < (Dec.dec n).size := by rw [dec_size]; have := Dec.dc_pos n; omega
theorem minus_toList (s : ByteArray) : ((⟨#[45]⟩ : ByteArray) ++ s).toList = 45 :: s.toList := by
  have e : ∀ t : ByteArray, t.toList = t.data.toList := fun t => by
    have := ByteArray.toList_mk t.data.toList
    rwa [Array.toArray_toList] at this
  rw [e, e, ByteArray.data_append, Array.toList_append]
  rfl
theorem minus_size (s : ByteArray) : ((⟨#[45]⟩ : ByteArray) ++ s).size = s.size + 1 := by
  rw [ByteArray.size_append]
  show 1 + s.size = _
  omega
theorem minus_tail (s : ByteArray) : ((⟨#[45]⟩ : ByteArray) ++ s).extract 1 ((⟨#[45]⟩ : ByteArray) ++ s).size = s := by
  apply ByteArray.ext
  apply Array.toList_inj.1
  rw [minus_size, ByteArray.data_extract, ByteArray.data_append, Array.toList_extract, Array.toList_append, List.extract_eq_take_drop]
  show List.take (s.size + 1 - 1) (List.drop 1 (45 :: s.data.toList)) = _
  rw [Nat.add_sub_cancel, List.drop_succ_cons, List.drop_zero]
  exact List.take_of_length_le (by simp)
theorem dec_head (n : Nat) : 48 ≤ bt (Dec.dec n) 0 := by
  have := Dec.bt_tx (Dec.Ds_dc n) 0 (by have := Dec.dc_pos n; omega)
  have e : bt (Dec.dec n) 0 = bt (Dec.tx (Dec.dc n)) ((0 : Nat) : Int) := rfl
  rw [e, this]
  omega
theorem minus_head (s : ByteArray) : bt ((⟨#[45]⟩ : ByteArray) ++ s) 0 = 45 := by
  unfold bt
  rw [dif_pos (by rw [minus_size]; show 0 < _; omega)]
  rfl
theorem dec_toList_head (n : Nat) : ∀ l : List UInt8, (Dec.dec n).toList ≠ 45 :: l := by
  intro l h
  unfold Dec.dec at h
  rw [Dec.tx_toList] at h
  have hd : Dec.Ds (Dec.dc n).reverse := (Dec.Ds_dc n).reverse
  cases e : (Dec.dc n).reverse with
  | nil => rw [e] at h; cases h
  | cons d r =>
    rw [e] at h hd
    simp only [List.map_cons, List.cons.injEq] at h
    have := congrArg UInt8.toNat h.1
    rw [Dec.ch_nat hd.head] at this
    have h45 : (45 : UInt8).toNat = 45 := rfl
    omega
theorem tz_inj {a b : Int} : (tz a).toList = (tz b).toList ↔ a = b := by
  refine ⟨fun h => ?_, fun h => by rw [h]⟩
  by_cases ha : a < 0
  · by_cases hb : b < 0
    · rw [tz_neg ha, tz_neg hb, minus_toList, minus_toList] at h
      have := Dec.dec_inj.1 (List.cons.inj h).2
      omega
    · rw [tz_neg ha, tz_pos hb, minus_toList] at h
      exact absurd h.symm (dec_toList_head _ _)
  · by_cases hb : b < 0
    · rw [tz_pos ha, tz_neg hb, minus_toList] at h
      exact absurd h (dec_toList_head _ _)
    · rw [tz_pos ha, tz_pos hb] at h
      have := Dec.dec_inj.1 h
      omega
theorem tz_beq (a b : Int) : ((tz a).toList == (tz b).toList) = decide (a = b) := by
  by_cases h : a = b
  · subst h; simp
  · rw [decide_eq_false h]
    have : ¬ (tz a).toList = (tz b).toList := fun e => h (tz_inj.1 e)
    simpa using this
theorem tz_head (z : Int) : bt (tz z) 0 = 45 ↔ z < 0 := by
  by_cases h : z < 0
  · rw [tz_neg h, minus_head]
    simp [h]
  · rw [tz_pos h]
    have := dec_head z.natAbs
    constructor
    · intro e; omega
    · intro e; exact absurd e h
theorem tz_size_pos (z : Int) : 0 < (tz z).size := by
  by_cases h : z < 0
  · rw [tz_neg h, minus_size]; omega
  · rw [tz_pos h]; exact dec_size_pos _
theorem tz_zero : tz 0 = ⟨#[48]⟩ := by rw [tz_pos (by omega)]; exact Dec.dec_zero
theorem tz_is0 (z : Int) : (tz z).toList = ([48] : List UInt8) ↔ z = 0 := by
  have h : (tz 0).toList = ([48] : List UInt8) := by rw [tz_zero]; exact ByteArray.toList_mk [48]
  rw [← h]
  exact tz_inj
/-- A quotient rounded down, and what is left: by the sizes, and a step where what is left has not the divisor's sign. -/
def flq (a b : Int) : Int := zv (decide (a * b < 0)) (a.natAbs / b.natAbs)
def flr (a b : Int) : Int := a - b * flq a b
def fl (a b : Int) : Int × Int := if flr a b * b < 0 then (flq a b - 1, a - b * (flq a b - 1)) else (flq a b, flr a b)
theorem flr_eq (a b : Int) (hb : b ≠ 0) : flr a b = zv (decide (a < 0)) (a.natAbs % b.natAbs) := by
  unfold flr flq
  have hdiv := Nat.div_add_mod a.natAbs b.natAbs
  have key : (a.natAbs : Int) = (b.natAbs : Int) * ((a.natAbs / b.natAbs : Nat) : Int) + ((a.natAbs % b.natAbs : Nat) : Int) := by
    rw [← Int.natCast_mul, ← Int.natCast_add, hdiv]
  generalize a.natAbs / b.natAbs = q at key hdiv
  generalize a.natAbs % b.natAbs = r at key hdiv
  by_cases ha : a < 0
  · have ea : a = -(a.natAbs : Int) := by omega
    rw [decide_eq_true ha, zv_true]
    by_cases hb0 : b < 0
    · have eb : b = -(b.natAbs : Int) := by omega
      have : ¬ a * b < 0 := by
        have := Int.mul_pos_of_neg_of_neg ha hb0
        omega
      rw [decide_eq_false this, zv_false]
      rw [eb, Int.neg_mul]
      rw [eb] at key
      simp only [Int.natAbs_neg, Int.natAbs_natCast] at key ⊢
      omega
    · have eb : b = (b.natAbs : Int) := by omega
      have : a * b < 0 := Int.mul_neg_of_neg_of_pos ha (by omega)
      rw [decide_eq_true this, zv_true, Int.mul_neg]
      rw [← eb] at key
      omega
  · have ea : a = (a.natAbs : Int) := by omega
    rw [decide_eq_false ha, zv_false]
    by_cases hb0 : b < 0
    · have eb : b = -(b.natAbs : Int) := by omega
      by_cases a0 : a = 0
      · subst a0
        have hr : b.natAbs * q + r = 0 := hdiv
        have hr2 : r = 0 := by omega
        have hq : q = 0 := by
          rcases Nat.mul_eq_zero.1 (show b.natAbs * q = 0 by omega) with h | h
          · omega
          · exact h
        rw [hq, zv_zero, hr2]
        simp
      · have : a * b < 0 := Int.mul_neg_of_pos_of_neg (by omega) hb0
        rw [decide_eq_true this, zv_true, Int.mul_neg]
        have e2 : b * (q : Int) = -((b.natAbs : Int) * (q : Int)) := by rw [← Int.neg_mul, ← eb]
        rw [e2]
        omega
    · have eb : b = (b.natAbs : Int) := by omega
      have : ¬ a * b < 0 := by
        have := Int.mul_nonneg (show 0 ≤ a by omega) (show 0 ≤ b by omega)
        omega
      rw [decide_eq_false this, zv_false]
      rw [← eb] at key
      omega
theorem flr_lt (a b : Int) (hb : b ≠ 0) : (flr a b).natAbs < b.natAbs := by
  rw [flr_eq a b hb, natAbs_zv]
  exact Nat.mod_lt _ (by omega)
theorem fl_sum (a b : Int) : b * (fl a b).1 + (fl a b).2 = a := by
  unfold fl
  split
  · show b * (flq a b - 1) + (a - b * (flq a b - 1)) = a
    omega
  · show b * flq a b + flr a b = a
    unfold flr
    omega
theorem mul_neg_cases {a b : Int} (h : a * b < 0) : (a < 0 ∧ 0 < b) ∨ (0 < a ∧ b < 0) := by
  rcases Int.lt_trichotomy a 0 with h1 | h1 | h1
  · rcases Int.lt_trichotomy b 0 with h2 | h2 | h2
    · have := Int.mul_pos_of_neg_of_neg h1 h2; omega
    · rw [h2, Int.mul_zero] at h; omega
    · exact .inl ⟨h1, h2⟩
  · rw [h1, Int.zero_mul] at h; omega
  · rcases Int.lt_trichotomy b 0 with h2 | h2 | h2
    · exact .inr ⟨h1, h2⟩
    · rw [h2, Int.mul_zero] at h; omega
    · have := Int.mul_pos h1 h2; omega
theorem fl_right (a b : Int) (hb : b ≠ 0) : (fl a b).2.natAbs < b.natAbs ∧ 0 ≤ (fl a b).2 * b := by
  have h1 := flr_lt a b hb
  unfold fl
  split
  · rename_i h
    have e : a - b * (flq a b - 1) = flr a b + b := by unfold flr; rw [Int.mul_sub]; omega
    show (a - b * (flq a b - 1)).natAbs < b.natAbs ∧ 0 ≤ (a - b * (flq a b - 1)) * b
    rw [e]
    rcases mul_neg_cases h with ⟨h2, h3⟩ | ⟨h2, h3⟩
    · exact ⟨by omega, Int.mul_nonneg (by omega) (by omega)⟩
    · exact ⟨by omega, Int.mul_nonneg_of_nonpos_of_nonpos (by omega) (by omega)⟩
  · rename_i h
    exact ⟨h1, by show 0 ≤ flr a b * b; omega⟩
theorem fl_size (a b : Int) : (fl a b).1.natAbs ≤ a.natAbs + 1 := by
  have h : (flq a b).natAbs ≤ a.natAbs := by
    unfold flq
    rw [natAbs_zv]
    exact Nat.div_le_self _ _
  unfold fl
  split
  · show (flq a b - 1).natAbs ≤ _
    omega
  · show (flq a b).natAbs ≤ _
    omega
/-! ### Sums, products, order -/
theorem add_same {a b : Int} (h : a < 0 ↔ b < 0) : zv (decide (a < 0)) (a.natAbs + b.natAbs) = a + b := by
  by_cases ha : a < 0
  · have hb := h.1 ha
    rw [decide_eq_true ha, zv_true]
    omega
  · have hb : ¬ b < 0 := fun e => ha (h.2 e)
    rw [decide_eq_false ha, zv_false]
    omega
theorem add_left {a b : Int} (h : ¬ (a < 0 ↔ b < 0)) (hl : b.natAbs ≤ a.natAbs) : zv (decide (a < 0)) (a.natAbs - b.natAbs) = a + b := by
  by_cases ha : a < 0
  · have hb : ¬ b < 0 := fun e => h ⟨fun _ => e, fun _ => ha⟩
    rw [decide_eq_true ha, zv_true]
    omega
  · have hb : b < 0 := Classical.byContradiction fun e => h ⟨fun x => absurd x ha, fun x => absurd x e⟩
    rw [decide_eq_false ha, zv_false]
    omega
theorem add_right {a b : Int} (h : ¬ (a < 0 ↔ b < 0)) (hl : a.natAbs < b.natAbs) : zv (decide (b < 0)) (b.natAbs - a.natAbs) = a + b := by
  rw [Int.add_comm]
  exact add_left (fun e => h e.symm) (by omega)
theorem mul_sign (a b : Int) : zv (decide (a * b < 0)) (a.natAbs * b.natAbs) = a * b := by
  rw [← Int.natAbs_mul]
  exact zv_self _
theorem sign_cases (z : Int) : (z < 0 ∧ z.sign = -1) ∨ (z = 0 ∧ z.sign = 0) ∨ (0 < z ∧ z.sign = 1) := by
  rcases Int.lt_trichotomy z 0 with h | h | h
  · exact .inl ⟨h, Int.sign_eq_neg_one_of_neg h⟩
  · subst h; exact .inr (.inl ⟨rfl, rfl⟩)
  · exact .inr (.inr ⟨h, Int.sign_eq_one_of_pos h⟩)
theorem sign_lt (z : Int) : z.sign < 0 ↔ z < 0 := by
  rcases sign_cases z with ⟨h, e⟩ | ⟨h, e⟩ | ⟨h, e⟩ <;> rw [e] <;> omega
theorem cmp_pos {a b : Int} (ha : ¬ a < 0) (hb : ¬ b < 0) : Num.cmp a.natAbs b.natAbs = (a - b).sign := by
  rcases sign_cases (a - b) with ⟨h, e⟩ | ⟨h, e⟩ | ⟨h, e⟩ <;> rw [e]
  · exact Num.cmp_lt (by omega)
  · exact Num.cmp_eq (by omega)
  · exact Num.cmp_gt (by omega)
theorem cmp_neg {a b : Int} (ha : a < 0) (hb : b < 0) : Num.cmp b.natAbs a.natAbs = (a - b).sign := by
  rcases sign_cases (a - b) with ⟨h, e⟩ | ⟨h, e⟩ | ⟨h, e⟩ <;> rw [e]
  · exact Num.cmp_lt (by omega)
  · exact Num.cmp_eq (by omega)
  · exact Num.cmp_gt (by omega)
theorem cmp_sign {a b : Int} (h : a.sign ≠ b.sign) : (a - b).sign = if a.sign < b.sign then -1 else 1 := by
  rcases sign_cases (a - b) with ⟨h1, e1⟩ | ⟨h1, e1⟩ | ⟨h1, e1⟩ <;> rw [e1] <;> rcases sign_cases a with ⟨h2, e2⟩ | ⟨h2, e2⟩ | ⟨h2, e2⟩ <;> rw [e2] at h ⊢ <;> rcases sign_cases b with ⟨h3, e3⟩ | ⟨h3, e3⟩ | ⟨h3, e3⟩ <;> rw [e3] at h ⊢ <;> first | omega | rfl | (exact absurd rfl h)
/-! ### What is kept, and what it stands for -/
structure Is (m : Bool) (l : List Int) (z : Int) (K : Nat) : Prop where
  ws : Num.Ws l
  len : l.length ≤ K
  val : zv m (Num.nv l) = z
theorem Is.abs {m : Bool} {l : List Int} {z : Int} {K : Nat} (h : Is m l z K) : z.natAbs = Num.nv l := by rw [← h.val, natAbs_zv]
theorem Is.lt {m : Bool} {l : List Int} {z : Int} {K : Nat} (h : Is m l z K) : z.natAbs < 2 ^ (32 * K) := by rw [h.abs]; exact Num.nv_lt_of h.ws h.len
theorem Is.le {m : Bool} {l : List Int} {z : Int} {K J : Nat} (h : Is m l z K) (hJ : K ≤ J) : Is m l z J := ⟨h.ws, Nat.le_trans h.len hJ, h.val⟩
theorem Is.neg {m : Bool} {l : List Int} {z : Int} {K : Nat} (h : Is m l z K) : Is (!m) l (-z) K := ⟨h.ws, h.len, by rw [zv_not, h.val]⟩
theorem Is.of {m : Bool} {l : List Int} {K : Nat} (hW : Num.Ws l) (hl : l.length ≤ K) : Is m l (zv m (Num.nv l)) K := ⟨hW, hl, rfl⟩
theorem Is.nd {m : Bool} {n K : Nat} (h : n < 2 ^ (32 * K)) : Is m (Num.nd n) (zv m n) K := ⟨Num.Ws_nd n, Num.nd_length_le h, by rw [Num.nv_nd]⟩
theorem Is.zd {z : Int} {K : Nat} (h : z.natAbs < 2 ^ (32 * K)) : Is (zd z).1 (zd z).2 z K := ⟨Num.Ws_nd _, Num.nd_length_le h, by show zv (decide (z < 0)) (Num.nv (Num.nd z.natAbs)) = z; rw [Num.nv_nd, zv_self]⟩
theorem Is.ok {m : Bool} {l : List Int} {z : Int} {K : Nat} (h : Is m l z K) (hK : K < 1000000) : Num.okw l = true := Num.okw_of (by have := h.len; omega) h.ws
theorem nd_len_pos (n : Nat) : 0 < (Num.nd n).length ↔ n ≠ 0 := by
  constructor
  · intro h e
    rw [e, Num.nd_zero] at h
    exact absurd h (by decide)
  · intro h
    rcases Nat.eq_zero_or_pos (Num.nd n).length with e | e
    · exact absurd (Num.nd_eq_nil.1 (List.eq_nil_of_length_eq_zero e)) h
    · exact e
theorem abs_add {a b : Int} {K : Nat} (ha : a.natAbs < 2 ^ (32 * K)) (hb : b.natAbs < 2 ^ (32 * K)) : (a + b).natAbs < 2 ^ (32 * (K + 1)) := by
  have := Num.add_lt ha hb
  omega
theorem abs_neg {a : Int} {K : Nat} (ha : a.natAbs < 2 ^ (32 * K)) : (-a).natAbs < 2 ^ (32 * K) := by omega
theorem abs_sub {a b : Int} {K : Nat} (ha : a.natAbs < 2 ^ (32 * K)) (hb : b.natAbs < 2 ^ (32 * K)) : (a - b).natAbs < 2 ^ (32 * (K + 1)) := by
  have := Num.add_lt ha hb
  omega
theorem abs_mul {a b : Int} {K J : Nat} (ha : a.natAbs < 2 ^ (32 * K)) (hb : b.natAbs < 2 ^ (32 * J)) : (a * b).natAbs < 2 ^ (32 * (K + J)) := by
  rw [Int.natAbs_mul]
  exact Num.mul_lt ha hb
theorem abs_le {a : Int} {K J : Nat} (ha : a.natAbs < 2 ^ (32 * K)) (h : K ≤ J) : a.natAbs < 2 ^ (32 * J) := Num.le_pow ha h
theorem sign_range (z : Int) : -1 ≤ z.sign ∧ z.sign ≤ 1 := by rcases sign_cases z with ⟨_, e⟩ | ⟨_, e⟩ | ⟨_, e⟩ <;> rw [e] <;> decide
theorem sign_mul_range (a b : Int) : -1 ≤ a.sign * b.sign ∧ a.sign * b.sign ≤ 1 := by rw [← Int.sign_mul]; exact sign_range _
theorem w64_sign (a b : Int) : wrap64 (a.sign * b.sign) = a.sign * b.sign := by
  have := sign_mul_range a b
  exact Dec.w64 (by omega) (by omega)
theorem clamp {a b : Int} (h : a.sign ≠ b.sign) : mn (mx (wrap64 (a.sign - b.sign)) (-1)) 1 = (a - b).sign := by
  have h1 := sign_range a
  have h2 := sign_range b
  rw [cmp_sign h, Dec.w64 (by omega) (by omega)]
  unfold mn mx
  (repeat' split) <;> omega
theorem tz_size_le {z : Int} {K : Nat} (hK : 1 ≤ K) (h : z.natAbs < 2 ^ (32 * K)) : (tz z).size ≤ 10 * K + 1 := by
  have := Dec.dc_len32 hK h
  by_cases hz : z < 0
  · rw [tz_neg hz, minus_size, dec_size]; omega
  · rw [tz_pos hz, dec_size]; omega
theorem tz_zv (m : Bool) (n : Nat) : tz (zv m n) = if m = true ∧ n ≠ 0 then (⟨#[45]⟩ : ByteArray) ++ Dec.dec n else Dec.dec n := by
  by_cases h : m = true ∧ n ≠ 0
  · rw [if_pos h, tz_neg ((zv_neg m n).2 h), natAbs_zv]
  · rw [if_neg h, tz_pos (fun e => h ((zv_neg m n).1 e)), natAbs_zv]
theorem zd_zero : zd 0 = (false, []) := by
  unfold zd
  rw [show (0 : Int).natAbs = 0 from rfl, Num.nd_zero]
  rfl
end Go.Proofs.Ytcdkopidgibijaa.Zn
