/- Fractions, in plain Lean: what is kept of them. -/
import Derived.Test.YtcdkopidgibijaaInt
namespace Go.Proofs.Ytcdkopidgibijaa.Qn
open Go.RowKit Go.Proofs.YtcdkopidgibijaaW.PrintWords

/-- A denominator, as it is taken. -/
def dn (n : Nat) : Nat := if n = 0 then 1 else n
def dl (l : List Int) : List Int := if Num.nv l = 0 then Num.nd 1 else l
theorem dn_ne (n : Nat) : dn n ≠ 0 := by
  unfold dn
  split <;> omega
theorem dn_self {n : Nat} (h : n ≠ 0) : dn n = n := if_neg h
theorem nv_dl (l : List Int) : Num.nv (dl l) = dn (Num.nv l) := by
  unfold dl dn
  split
  · exact Num.nv_nd 1
  · rfl
theorem ws_dl {l : List Int} (h : Num.Ws l) : Num.Ws (dl l) := by
  unfold dl
  split
  · exact Num.Ws_nd 1
  · exact h
theorem len_dl {l : List Int} {K : Nat} (h : l.length ≤ K) (hK : 1 ≤ K) : (dl l).length ≤ K := by
  unfold dl
  split
  · exact Nat.le_trans (Num.nd_length_le (n := 1) (k := 1) (by decide)) hK
  · exact h
/-- A fraction, as it is told. -/
def qd (r : Rat) : Bool × List Int × List Int := ((Zn.zd r.num).1, (Zn.zd r.num).2, Num.nd r.den)
structure Sm (r : Rat) (K : Nat) : Prop where
  num : r.num.natAbs < 2 ^ (32 * K)
  den : r.den < 2 ^ (32 * K)
structure Is (m : Bool) (l1 l2 : List Int) (r : Rat) (K : Nat) : Prop where
  num : Zn.Is m l1 (Zn.zv m (Num.nv l1)) K
  ws : Num.Ws l2
  len : l2.length ≤ K
  val : mkRat (Zn.zv m (Num.nv l1)) (dn (Num.nv l2)) = r
theorem Is.of {m : Bool} {l1 l2 : List Int} {K : Nat} (h1 : Num.Ws l1) (h2 : Num.Ws l2) (k1 : l1.length ≤ K) (k2 : l2.length ≤ K) : Is m l1 l2 (mkRat (Zn.zv m (Num.nv l1)) (dn (Num.nv l2))) K := ⟨Zn.Is.of h1 k1, h2, k2, rfl⟩
theorem Is.le {m : Bool} {l1 l2 : List Int} {r : Rat} {K J : Nat} (h : Is m l1 l2 r K) (hJ : K ≤ J) : Is m l1 l2 r J := ⟨h.num.le hJ, h.ws, Nat.le_trans h.len hJ, h.val⟩
theorem Is.qd {r : Rat} {K : Nat} (h : Sm r K) : Is (qd r).1 (qd r).2.1 (qd r).2.2 r K := by
  have I := Zn.Is.zd h.num
  refine ⟨?_, Num.Ws_nd _, Num.nd_length_le h.den, ?_⟩
  · show Zn.Is (Zn.zd r.num).1 (Zn.zd r.num).2 (Zn.zv (Zn.zd r.num).1 (Num.nv (Zn.zd r.num).2)) K
    rw [I.val]
    exact I
  · show mkRat (Zn.zv (Zn.zd r.num).1 (Num.nv (Zn.zd r.num).2)) (dn (Num.nv (Num.nd r.den))) = r
    rw [I.val, Num.nv_nd, dn_self r.den_nz, Rat.mkRat_self]
theorem num_eq (m : Bool) (n d : Nat) (hd : d ≠ 0) : (mkRat (Zn.zv m n) d).num = Zn.zv m (n / Nat.gcd n d) := by
  rw [Rat.num_mkRat, if_neg hd, Zn.natAbs_zv, Nat.gcd_comm]
  cases m
  · rfl
  · show -(n : Int) / (Nat.gcd n d : Int) = -((n / Nat.gcd n d : Nat) : Int)
    rw [Int.neg_ediv_of_dvd (Int.natCast_dvd_natCast.2 (Nat.gcd_dvd_left n d))]
    rfl
theorem den_eq (m : Bool) (n d : Nat) (hd : d ≠ 0) : (mkRat (Zn.zv m n) d).den = d / Nat.gcd n d := by
  rw [Rat.den_mkRat, if_neg hd, Zn.natAbs_zv, Nat.gcd_comm]
theorem num_le (p : Int) (d : Nat) (hd : d ≠ 0) : (mkRat p d).num.natAbs ≤ p.natAbs := by
  have h := num_eq (decide (p < 0)) p.natAbs d hd
  rw [Zn.zv_self] at h
  rw [h, Zn.natAbs_zv]
  exact Nat.div_le_self _ _
theorem den_le (p : Int) (d : Nat) (hd : d ≠ 0) : (mkRat p d).den ≤ d := by
  rw [Rat.den_mkRat, if_neg hd]
  exact Nat.div_le_self _ _
theorem Sm.mk' {p : Int} {d K : Nat} (hd : d ≠ 0) (h1 : p.natAbs < 2 ^ (32 * K)) (h2 : d < 2 ^ (32 * K)) : Sm (mkRat p d) K := ⟨Nat.lt_of_le_of_lt (num_le p d hd) h1, Nat.lt_of_le_of_lt (den_le p d hd) h2⟩
theorem Sm.le {r : Rat} {K J : Nat} (h : Sm r K) (hJ : K ≤ J) : Sm r J := ⟨Num.le_pow h.num hJ, Num.le_pow h.den hJ⟩
theorem dn_lt {l : List Int} {K : Nat} (hW : Num.Ws l) (h : l.length ≤ K) (hK : 1 ≤ K) : dn (Num.nv l) < 2 ^ (32 * K) := by
  rw [← nv_dl]
  exact Num.nv_lt_of (ws_dl hW) (len_dl h hK)
theorem Is.sm {m : Bool} {l1 l2 : List Int} {r : Rat} {K : Nat} (h : Is m l1 l2 r K) (hK : 1 ≤ K) : Sm r K := by
  rw [← h.val]
  exact Sm.mk' (dn_ne _) h.num.lt (dn_lt h.ws h.len hK)
theorem Sm.neg {r : Rat} {K : Nat} (h : Sm r K) : Sm (-r) K := ⟨by rw [Rat.neg_num]; have := h.num; omega, by rw [Rat.neg_den]; exact h.den⟩
theorem cast_abs {d K : Nat} (h : d < 2 ^ (32 * K)) : ((d : Nat) : Int).natAbs < 2 ^ (32 * K) := by rw [Int.natAbs_natCast]; exact h
theorem Sm.mul {a b : Rat} {K J : Nat} (ha : Sm a K) (hb : Sm b J) : Sm (a * b) (K + J) := by
  rw [Rat.mul_def']
  exact Sm.mk' (Nat.mul_ne_zero a.den_nz b.den_nz) (Zn.abs_mul ha.num hb.num) (Num.mul_lt ha.den hb.den)
theorem Sm.add {a b : Rat} {K J : Nat} (ha : Sm a K) (hb : Sm b J) : Sm (a + b) (K + J + 1) := by
  rw [Rat.add_def']
  have h1 := Zn.abs_mul ha.num (cast_abs hb.den)
  have h2 := Zn.abs_mul hb.num (cast_abs ha.den)
  rw [Nat.add_comm J K] at h2
  exact Sm.mk' (Nat.mul_ne_zero a.den_nz b.den_nz) (Zn.abs_add h1 h2) (Num.le_pow (Num.mul_lt ha.den hb.den) (by omega))
theorem Sm.sub {a b : Rat} {K J : Nat} (ha : Sm a K) (hb : Sm b J) : Sm (a - b) (K + J + 1) := by
  rw [Rat.sub_eq_add_neg]
  exact ha.add hb.neg
theorem mk_one (n : Int) : mkRat n 1 = (n : Rat) := Rat.mkRat_self (n : Rat)
theorem Sm.int {n : Int} {K : Nat} (h : n.natAbs < 2 ^ (32 * K)) (hK : 1 ≤ K) : Sm (n : Rat) K := by
  rw [← mk_one]
  refine Sm.mk' (by decide) h ?_
  exact Nat.lt_of_lt_of_le (show 1 < 2 ^ 32 by decide) (Nat.pow_le_pow_right (by omega) (by omega))
theorem sign_num (p : Int) (d : Nat) (hd : d ≠ 0) : (mkRat p d).num.sign = p.sign := by
  have h := num_eq (decide (p < 0)) p.natAbs d hd
  rw [Zn.zv_self] at h
  have h2 : p.sign = (Zn.zv (decide (p < 0)) p.natAbs).sign := by rw [Zn.zv_self]
  rw [h, h2, Zn.sign_zv, Zn.sign_zv]
  have hg := Nat.gcd_pos_of_pos_right p.natAbs (Nat.pos_of_ne_zero hd)
  by_cases h0 : p.natAbs = 0
  · rw [h0, Nat.zero_div]
  · rw [if_neg h0, if_neg]
    have := Nat.div_pos (Nat.le_of_dvd (Nat.pos_of_ne_zero h0) (Nat.gcd_dvd_left p.natAbs d)) hg
    omega
theorem sub_mk (p q : Int) {d e : Nat} (hd : d ≠ 0) (he : e ≠ 0) : mkRat p d - mkRat q e = mkRat (p * (e : Int) - q * (d : Int)) (d * e) := by
  rw [Rat.sub_eq_add_neg, Rat.neg_mkRat, Rat.mkRat_add_mkRat _ _ hd he, Int.neg_mul, ← Int.sub_eq_add_neg]
theorem inv_mk (p : Int) (d : Nat) : (mkRat p d)⁻¹ = mkRat (Zn.zv (decide (p < 0)) d) p.natAbs := by
  rw [← Rat.divInt_ofNat, Rat.inv_divInt, ← Rat.divInt_ofNat]
  by_cases h : p < 0
  · rw [decide_eq_true h, Zn.zv_true, show ((p.natAbs : Nat) : Int) = -p from by omega, Rat.neg_divInt_neg]
  · rw [decide_eq_false h, Zn.zv_false, show ((p.natAbs : Nat) : Int) = p from by omega]
/-- Rounded down. -/
theorem fl_ediv (p : Int) {d : Nat} (hd : d ≠ 0) : (Zn.fl p (d : Int)).1 = p / (d : Int) ∧ (Zn.fl p (d : Int)).2 = p % (d : Int) := by
  have h1 := Zn.fl_sum p (d : Int)
  have h2 := Zn.fl_right p (d : Int) (by omega)
  obtain ⟨q, hq⟩ : ∃ q, q = (Zn.fl p (d : Int)).1 := ⟨_, rfl⟩
  obtain ⟨r, hr⟩ : ∃ r, r = (Zn.fl p (d : Int)).2 := ⟨_, rfl⟩
  rw [← hq, ← hr] at h1 ⊢
  rw [← hr] at h2
  have hr0 : 0 ≤ r := by
    by_cases hn : r < 0
    · have := Int.mul_neg_of_neg_of_pos hn (show 0 < (d : Int) by omega)
      omega
    · omega
  have := (Int.ediv_emod_unique (a := p) (b := (d : Int)) (r := r) (q := q) (by omega)).2 ⟨by omega, hr0, by omega⟩
  exact ⟨this.1.symm, this.2.symm⟩
theorem ediv_cross {p n : Int} {d e : Nat} (hd : d ≠ 0) (he : e ≠ 0) (h : p * (e : Int) = n * (d : Int)) : p / (d : Int) = n / (e : Int) := by
  have hdd : (0 : Int) < (d : Int) := by omega
  have hee : (0 : Int) < (e : Int) := by omega
  rw [← Int.mul_ediv_mul_of_pos_left p (d : Int) hee, h, Int.mul_comm (d : Int) (e : Int), Int.mul_ediv_mul_of_pos_left n (e : Int) hdd]
theorem floor_mk (p : Int) {d : Nat} (hd : d ≠ 0) : (mkRat p d).floor = p / (d : Int) := by
  rw [Rat.floor_def]
  refine (ediv_cross hd (mkRat p d).den_nz ?_).symm
  exact (Rat.mkRat_eq_iff hd (mkRat p d).den_nz).1 (Rat.mkRat_self _).symm
end Go.Proofs.Ytcdkopidgibijaa.Qn
