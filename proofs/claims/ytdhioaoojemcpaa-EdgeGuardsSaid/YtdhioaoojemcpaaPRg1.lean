/- Several functions' texts in one file. -/
import Derived.Test.YtdhioaoojemcpaaFlp
import Derived.Test.YtdhioaoojemcpaaPRg0
import Derived.Test.YtdhioaoojemcpaaTy
import Derived.Test.YtdhioaoojemcpaaShort
import Derived.Test.YtdhioaoojemcpaaLoop
import Derived.Test.YtdhioaoojemcpaaRat
import Derived.Test.YtdhioaoojemcpaaDec
import Derived.Test.YtdhioaoojemcpaaNum
import Derived.Test.YtdhioaoojemcpaaGrd
import Derived.Recover
import Derived.WalkSmall
import Derived.Laws.Pointers
namespace Go.Proofs.Ytdhioaoojemcpaa.PR
open Go.RowKit Go.Proofs.YtdhioaoojemcpaaW.PrintWords Go.Proofs.YtdhioaoojemcpaaW.PrintLast Go.Proofs.YtdhioaoojemcpaaW.PrintMore
attribute [local go_sem] max2_int min2_int max_two min_two max_three min_three max_four min_four   -- for this text's walks alone
set_option linter.unusedVariables false
set_option linter.unusedSimpArgs false
section
open Lin Flo Ieee
@[irreducible] def place : Nat := 1074
theorem place_eq : place = 1074 := by unfold place; rfl
/-- What a floating-point number that is a number stands for. -/
def fq (b : Nat) : Rat := mkRat (sv b) (2 ^ place)
theorem apart {b : Nat} (hf : rung b < top) : ∃ (fr L s : Nat) (e : Int), Tl Try.prog 38 [.one (.val (.float .f64 (rung b)))] (.tup [.one (.val (.float .f64 fr)), .one (.val (.int .i64 e))]) ∧ Tl Try.prog 41 [.one (.val (.float .f64 fr)), .one (.val (.int .i64 53))] (.el (.one (.val (.float .f64 L)))) ∧
    floatToIntVal .f64 L .u64 = some (s : Int) ∧ s < 9007199254740992 ∧ -1100 ≤ e ∧ e ≤ 1100 ∧ (∀ n : Nat, e - 53 = -(n : Int) → vn (rung b) * 2 ^ n = s * 2 ^ place) ∧ (∀ n : Nat, e - 53 = (n : Int) → vn (rung b) = s * 2 ^ (n + place)) := by
  generalize rung b = y at *
  by_cases h0 : y = 0
  · subst h0
    refine ⟨0, 0, 0, 0, frexp_t (frexp0_t (by decide)), ldexp_t (ldexp0_t (by decide)), by decide, by decide, by decide, by decide, fun n _ => ?_, fun n _ => ?_⟩
    · rw [vn_zero]; simp
    · rw [vn_zero]; simp
  · have h0 : 0 < y := Nat.pos_of_ne_zero h0
    obtain ⟨h1, h2⟩ := sig_range h0
    refine ⟨_, _, sig y, ex y, Frexp_t h0 hf, Ldexp_t h1 h2, toInt_eq h1 h2, h2, ?_, ?_, fun n hn => sig_val h0 place_eq hn, fun n hn => sig_val2 place_eq hn⟩
    · unfold ex
      split <;> omega
    · unfold top at hf
      unfold ex
      split
      · have := log_lt h0 (by assumption); omega
      · omega
theorem sv_zv (b : Nat) : sv b = Zn.zv (decide (key b < 0)) (vn (rung b)) := by
  unfold sv key
  cases neg b
  · simp [Zn.zv_false]
    rw [show (decide ((rung b : Int) < 0)) = false from decide_eq_false (by omega)]
    rfl
  · simp only [if_true]
    by_cases h0 : rung b = 0
    · rw [h0, vn_zero]; rfl
    · rw [show (decide (-(rung b : Int) < 0)) = true from decide_eq_true (by omega)]
      rfl
theorem zv_mul (m : Bool) (n k : Nat) : Zn.zv m n * (k : Int) = Zn.zv m (n * k) := by
  cases m <;> simp [Zn.zv_false, Zn.zv_true, Int.neg_mul]
theorem fq_down {b s n : Nat} (h : vn (rung b) * 2 ^ n = s * 2 ^ place) : mkRat (Zn.zv (decide (key b < 0)) s) (2 ^ n) = fq b := by
  unfold fq
  refine (Rat.mkRat_eq_iff (Nat.ne_of_gt (Nat.two_pow_pos _)) (Nat.ne_of_gt (Nat.two_pow_pos _))).2 ?_
  rw [sv_zv, zv_mul, zv_mul, h]
theorem fq_up {b s n : Nat} (h : vn (rung b) = s * 2 ^ (n + place)) : mkRat (Zn.zv (decide (key b < 0)) (2 ^ n * s)) 1 = fq b := by
  unfold fq
  refine (Rat.mkRat_eq_iff (by decide) (Nat.ne_of_gt (Nat.two_pow_pos _))).2 ?_
  rw [sv_zv, zv_mul, zv_mul, h, Nat.mul_one, Nat.pow_add]
  congr 1
  ac_rfl
theorem kind_fin {b : Nat} (hb : b < 18446744073709551616) (hf : rung b < top) : kindR b = 0 ∨ kindR b = 1 ∨ kindR b = 2 := by
  unfold kindR
  have h1 : rung (b ^^^ 9223372036854775808) = rung b := by
    unfold rung
    have : (b ^^^ 9223372036854775808) % 2 ^ 63 = (b % 2 ^ 63) ^^^ (9223372036854775808 % 2 ^ 63) := Nat.xor_mod_two_pow
    have e : (2 : Nat) ^ 63 = 9223372036854775808 := by decide
    rw [e] at this
    rw [this]
    simp
  have hk := key_range hf
  have hk2 := key_range (x := b ^^^ 9223372036854775808) (by rw [h1]; exact hf)
  unfold top at hk hk2
  have i1 : infR b = false := by
    unfold infR
    rw [ord_gt (by omega) (by decide), key_of (x := 9218868437227405311) (by decide)]
    exact decide_eq_false (by omega)
  have i2 : infR (b ^^^ 9223372036854775808) = false := by
    unfold infR
    rw [ord_gt (by omega) (by decide), key_of (x := 9218868437227405311) (by decide)]
    exact decide_eq_false (by omega)
  rw [nan_false (by omega), i1, i2]
  simp only [Bool.false_eq_true, if_false]
  split
  · exact .inr (.inr rfl)
  · split
    · exact .inr (.inl rfl)
    · exact .inl rfl
theorem Exact_t {b : Nat} (hb : b < 18446744073709551616) (hf : rung b < top) : Tl Try.prog 16 [.one (.val (.float .f64 b))] (.tup [.agg [.val (.bool (Qn.qd (fq b)).1), .row (Qn.qd (fq b)).2.1, .row (Qn.qd (fq b)).2.2], .one (.val (.int .i64 0))]) := by
  have hkind : decide (kindR b > 2) = false := by rcases kind_fin hb hf with h | h | h <;> rw [h] <;> rfl
  have habs : Tl Try.prog 39 [.one (.val (.float .f64 b))] (.el (.one (.val (.float .f64 (rung b))))) := by
    have := abs_t (b := b)
    rwa [absR_eq hb] at this
  obtain ⟨fr, L, s, e, h1, h2, h3, h4, h5, h6, h7, h8⟩ := apart hf
  have hm : (double.order b 0 == some .lt) = decide (key b < 0) := by rw [ord_lt (by omega) (by decide), key_of (x := 0) (by decide)]; rfl
  have hws : wrap64 (e - 53) = e - 53 := wrap64_id (by omega) (by omega)
  have hsz : s < 2 ^ (32 * 2) := Nat.lt_trans h4 (by decide)
  obtain ⟨k1, a1⟩ := (nat_Of.ev s (by omega)).rounds
  have A1 : Ans (nat_Of.f k1 (s : Int)) (Num.nd s) := ⟨a1⟩
  obtain ⟨W, hW⟩ : ∃ W, W = 40 := ⟨_, rfl⟩
  by_cases hp : 0 ≤ e - 53
  · obtain ⟨n, hn⟩ : ∃ n : Nat, e - 53 = n := ⟨(e - 53).toNat, by omega⟩
    have hb0 : decide (wrap64 (e - 53) ≥ 0) = true := decide_eq_true (by rw [hws]; exact hp)
    have hl : 2 ^ n * s < 2 ^ (32 * W) := by
      have : 2 ^ n * s < 2 ^ n * 2 ^ 64 := (Nat.mul_lt_mul_left (Nat.two_pow_pos _)).2 hsz
      rw [← Nat.pow_add] at this
      exact Nat.lt_of_lt_of_le this (Nat.pow_le_pow_right (by omega) (by omega))
    obtain ⟨k2, a2⟩ := (nat_Shift.ev (a := Num.nd s) (Num.okw_of (by have := Num.nd_length_le hsz; omega) (Num.Ws_nd s)) (n := n) (by omega)).rounds
    have A2 : Ans (nat_Shift.f k2 (Num.nd s) (wrap64 (e - 53))) (Num.nd (2 ^ n * s)) := ⟨by rw [hws, hn, a2, Num.nv_nd]⟩
    obtain ⟨k3, a3⟩ := (whole_Make.ev (m := decide (key b < 0)) (Zn.Is.nd hl) (by omega)).rounds
    have A3 : Ans (whole_Make.f k3 (double.order b 0 == some .lt) (Num.nd (2 ^ n * s))) (Zn.zd (Zn.zv (decide (key b < 0)) (2 ^ n * s))) := ⟨by rw [hm]; exact a3⟩
    obtain ⟨k4, a4⟩ := (rat_Make.ev (l2 := []) (Zn.Is.zd (z := Zn.zv (decide (key b < 0)) (2 ^ n * s)) (K := W) (by rw [Zn.natAbs_zv]; exact hl)) Num.Ws.nil (Nat.zero_le _) (by omega) (by omega)).rounds
    have A4 : Ans (rat_Make.f k4 (Zn.zd (Zn.zv (decide (key b < 0)) (2 ^ n * s))).1 (Zn.zd (Zn.zv (decide (key b < 0)) (2 ^ n * s))).2 []) (Qn.qd (fq b)) := ⟨by rw [a4, ← fq_up (h8 n hn)]; rfl⟩
    exact ⟨Tells.goF Try.func16 Try.ntmps16⟩
  · obtain ⟨n, hn⟩ : ∃ n : Nat, e - 53 = -(n : Int) := ⟨(53 - e).toNat, by omega⟩
    have hb0 : decide (wrap64 (e - 53) ≥ 0) = false := decide_eq_false (by rw [hws]; exact hp)
    have hws2 : wrap64 (-(wrap64 (e - 53))) = (n : Int) := by rw [hws, hn, Int.neg_neg]; exact wrap64_id (by omega) (by omega)
    have hl : 2 ^ n < 2 ^ (32 * W) := Nat.pow_lt_pow_right (by omega) (by omega)
    obtain ⟨k0, a0⟩ := (nat_Of.ev 1 (by omega)).rounds
    have A0 : Ans (nat_Of.f k0 1) (Num.nd 1) := ⟨a0⟩
    obtain ⟨k2, a2⟩ := (nat_Shift.ev (a := Num.nd 1) (Num.okw_of (by have := Num.nd_length_le (n := 1) (k := 1) (by decide); omega) (Num.Ws_nd 1)) (n := n) (by omega)).rounds
    have A2 : Ans (nat_Shift.f k2 (Num.nd 1) (wrap64 (-(wrap64 (e - 53))))) (Num.nd (2 ^ n)) := ⟨by rw [hws2, a2, Num.nv_nd, Nat.mul_one]⟩
    obtain ⟨k3, a3⟩ := (whole_Make.ev (m := decide (key b < 0)) (Zn.Is.nd hsz) (by omega)).rounds
    have A3 : Ans (whole_Make.f k3 (double.order b 0 == some .lt) (Num.nd s)) (Zn.zd (Zn.zv (decide (key b < 0)) s)) := ⟨by rw [hm]; exact a3⟩
    obtain ⟨k4, a4⟩ := (rat_Make.ev (l2 := Num.nd (2 ^ n)) ((Zn.Is.zd (z := Zn.zv (decide (key b < 0)) s) (K := 2) (by rw [Zn.natAbs_zv]; exact hsz)).le (J := W) (by omega)) (Num.Ws_nd _) (Num.nd_length_le hl) (by omega) (by omega)).rounds
    have A4 : Ans (rat_Make.f k4 (Zn.zd (Zn.zv (decide (key b < 0)) s)).1 (Zn.zd (Zn.zv (decide (key b < 0)) s)).2 (Num.nd (2 ^ n))) (Qn.qd (fq b)) := ⟨by
      rw [a4, Num.nv_nd, Qn.dn_self (Nat.ne_of_gt (Nat.two_pow_pos _)), fq_down (h7 n hn)]⟩
    exact ⟨Tells.goF Try.func16 Try.ntmps16⟩
end
def whole_Sign.f (k : Nat) (a0_0 : Bool) (l0_1 : List Int) : Option (Int) := (whole_Make.f k a0_0 l0_1).bind fun bt232 => (if (bt232.2.length : Int) = 0 then (some 0) else (if bt232.1 = true then (some (-1)) else (some 1)))
theorem whole_Sign.ev {m : Bool} {l : List Int} {z : Int} {K : Nat} (h : Zn.Is m l z K) (hK : K < 1000000) : Ev (fun k => whole_Sign.f k m l) z.sign := by
 unfold whole_Sign.f
 refine Ev.bind (whole_Make.ev h hK) ?_
 show Ev (fun _ => if ((Num.nd z.natAbs).length : Int) = 0 then some 0 else if decide (z < 0) = true then some (-1) else some 1) _
 have hp := Zn.nd_len_pos z.natAbs
 rcases Zn.sign_cases z with ⟨hz, e⟩ | ⟨hz, e⟩ | ⟨hz, e⟩ <;> rw [e]
 ·have := hp.2 (by omega)
  exact Dec.no (by omega) (Dec.yes (decide_eq_true hz) (Ev.now _))
 ·subst hz
  exact Dec.yes (by rw [show (0 : Int).natAbs = 0 from rfl, Num.nd_zero]; rfl) (Ev.now _)
 ·have := hp.2 (by omega)
  exact Dec.no (by omega) (Dec.no (by rw [decide_eq_false (by omega)]; decide) (Ev.now _))
set_option synthInstance.checkSynthOrder false in
open Lin in
set_option maxHeartbeats 4000000 in
instance whole_Sign.t {k : Nat} {a0_0 : Bool} {l0_1 : List Int} {r : Int} [h : Ans (whole_Sign.f k a0_0 l0_1) r] : Tl Try.prog 45 [.agg [.val (.bool a0_0), .row l0_1]] (.el (.one (.val (.int .i64 r)))) := by
 have h := h.out
 unfold whole_Sign.f at h
 repeat' (first | (replace h := Lin.bndK h) | (replace h := Lin.bnd h; obtain ⟨_, _, h⟩ := h) | split at h | cases h)
 all_goals exact ⟨Tells.go Try.func45 Try.ntmps45⟩
def whole_Compare.f (k : Nat) (a0_0 : Bool) (l0_1 : List Int) (a1_0 : Bool) (l1_1 : List Int) : Option (Int) := (whole_Sign.f k a0_0 l0_1).bind fun t240 => ((whole_Sign.f k a1_0 l1_1).bind fun t241 => (if t240 = t241 then (if t240 < 0 then ((nat_Compare.f k l1_1 l0_1).bind fun t242 => (some t242)) else ((nat_Compare.f k l0_1 l1_1).bind fun t243 => (some t243))) else (some (mn (mx (wrap64 (t240 - t241)) (-1)) 1))))
theorem whole_Compare.ev {m m' : Bool} {l l' : List Int} {a b : Int} {K J : Nat} (ha : Zn.Is m l a K) (hb : Zn.Is m' l' b J) (hK : K < 1000000) (hJ : J < 1000000) : Ev (fun k => whole_Compare.f k m l m' l') (a - b).sign := by
 unfold whole_Compare.f
 refine Ev.bind (whole_Sign.ev ha hK) (Ev.bind (whole_Sign.ev hb hJ) ?_)
 have oa := ha.ok hK
 have ob := hb.ok hJ
 by_cases h : a.sign = b.sign
 ·refine Dec.yes h ?_
  by_cases ha0 : a < 0
  ·have hb0 : b < 0 := (Zn.sign_lt b).1 (h ▸ (Zn.sign_lt a).2 ha0)
   have C : ∀ k, nat_Compare.f k l' l = some (a - b).sign := fun k => by unfold nat_Compare.f; rw [if_pos ob, if_pos oa, ← hb.abs, ← ha.abs, Zn.cmp_neg ha0 hb0]
   exact Dec.yes ((Zn.sign_lt a).2 ha0) (Dec.val C (Ev.now _))
  ·have hb0 : ¬ b < 0 := fun e => ha0 ((Zn.sign_lt a).1 (h ▸ (Zn.sign_lt b).2 e))
   have C : ∀ k, nat_Compare.f k l l' = some (a - b).sign := fun k => by unfold nat_Compare.f; rw [if_pos oa, if_pos ob, ← hb.abs, ← ha.abs, Zn.cmp_pos ha0 hb0]
   exact Dec.no (fun e => ha0 ((Zn.sign_lt a).1 e)) (Dec.val C (Ev.now _))
 ·rw [← Zn.clamp h]
  exact Dec.no h (Ev.now _)
set_option synthInstance.checkSynthOrder false in
open Lin in
set_option maxHeartbeats 4000000 in
instance whole_Compare.t {k : Nat} {a0_0 : Bool} {l0_1 : List Int} {a1_0 : Bool} {l1_1 : List Int} {r : Int} [h : Ans (whole_Compare.f k a0_0 l0_1 a1_0 l1_1) r] : Tl Try.prog 54 [.agg [.val (.bool a0_0), .row l0_1], .agg [.val (.bool a1_0), .row l1_1]] (.el (.one (.val (.int .i64 r)))) := by
 have h := h.out
 unfold whole_Compare.f at h
 repeat' (first | (replace h := Lin.bndK h) | (replace h := Lin.bnd h; obtain ⟨_, _, h⟩ := h) | split at h | cases h)
 all_goals exact ⟨Tells.go Try.func54 Try.ntmps54⟩
mutual
def nat_Mul.l0 : Nat → List Int → List Int → List Int → Int → Int → Option (List Int)
 | 0, _, _, _, _, _ => none
 | k + 1, x1, x5, x17, x18, x19 => if x19 < x18 then (if 0 ≤ x19 then (if x19 < (x17.length : Int) then (nat_Mul.l1 k x1 x5 x19 (rd x17 x19) 0 x17 x18 x19 x1 (x1.length : Int) 0) else (none)) else (none)) else ((nat_trim.f k x5).bind fun t247 => (some t247))
def nat_Mul.l1 : Nat → List Int → List Int → Int → Int → Int → List Int → Int → Int → List Int → Int → Int → Option (List Int)
 | 0, _, _, _, _, _, _, _, _, _, _, _ => none
 | k + 1, x1, x5, x6, x7, x8, x17, x18, x19, x24, x25, x26 => if x26 < x25 then (if 0 ≤ x26 then (if x26 < (x24.length : Int) then (if 0 ≤ (wrap64 (x6 + x26)) then (if (wrap64 (x6 + x26)) < (x5.length : Int) then (nat_Mul.l1 k x1 (x5.set ((wrap64 (x6 + x26)) : Int).toNat ((IntKind.u64.wrap (x8 + (IntKind.u64.wrap ((IntKind.u64.wrap ((IntKind.u64.wrap (x7)) * (IntKind.u64.wrap (rd x24 x26)))) + (IntKind.u64.wrap (rd x5 (wrap64 (x6 + x26)))))))) % 4294967296)) x6 x7 ((IntKind.u64.wrap (x8 + (IntKind.u64.wrap ((IntKind.u64.wrap ((IntKind.u64.wrap (x7)) * (IntKind.u64.wrap (rd x24 x26)))) + (IntKind.u64.wrap (rd x5 (wrap64 (x6 + x26)))))))) / 4294967296) x17 x18 x19 x24 x25 (wrap64 (x26 + 1))) else (none)) else (none)) else (none)) else (none)) else (if 0 ≤ (wrap64 (x6 + (x1.length : Int))) then (if (wrap64 (x6 + (x1.length : Int))) < (x5.length : Int) then (nat_Mul.l0 k x1 (x5.set ((wrap64 (x6 + (x1.length : Int))) : Int).toNat ((x8) % 4294967296)) x17 x18 (wrap64 (x19 + 1))) else (none)) else (none))
end
def nat_Mul.f (k : Nat) (l0 : List Int) (l1 : List Int) : Option (List Int) := if 0 ≤ (wrap64 ((l0.length : Int) + (l1.length : Int))) then (if (wrap64 ((l0.length : Int) + (l1.length : Int)) : Int).toNat ≤ 70368744177664 then (nat_Mul.l0 k l1 (List.replicate (wrap64 ((l0.length : Int) + (l1.length : Int)) : Int).toNat 0) l0 (l0.length : Int) 0) else (none)) else (none)
set_option maxHeartbeats 8000000 in
set_option maxRecDepth 100000 in
theorem nat_Mul.calls (k : Nat) (A0 : Option Addr) (c0 : Nat) (l0 : List Int) (A1 : Option Addr) (c1 : Nat) (l1 : List Int) (r : List Int) (w : World) (hr0 : Kd.C (Kd.int .u32) w A0 l0.length l0) (hc0 : l0.length ≤ c0) (hr1 : Kd.C (Kd.int .u32) w A1 l1.length l1) (hc1 : l1.length ≤ c1) (h : nat_Mul.f k l0 l1 = some r) :
  Calls Try.prog 62 #[.slice A0 l0.length c0, .slice A1 l1.length c1] w fun e w' => ∃ v0_ : Value, e = .returned (v0_) ∧ Kd.R (Kd.int .u32) 92 w' w.heap.size (fun _ => True) v0_ r ∧ Below w.heap.size w w' := by
 have HR0 := Aside0.mk hr0
 have HC0 := Aside0.mk hc0
 clear hr0 hc0
 have HR1 := Aside0.mk hr1
 have HC1 := Aside0.mk hc1
 clear hr1 hc1
 have HB := Aside0.mk (Below.refl w.heap.size w)
 have H : (if 0 ≤ (wrap64 ((l0.length : Int) + (l1.length : Int))) then (if (wrap64 ((l0.length : Int) + (l1.length : Int)) : Int).toNat ≤ 70368744177664 then (nat_Mul.l0 k l1 (List.replicate (wrap64 ((l0.length : Int) + (l1.length : Int)) : Int).toNat 0) l0 (l0.length : Int) 0) else (none)) else (none)) = some r := h
 clear h
 obtain ⟨ji3, hji3⟩ : ∃ j_ : Int, (wrap64 ((l0.length : Int) + (l1.length : Int))) = j_ := ⟨_, rfl⟩
 replace H : (if 0 ≤ (ji3) then (if (ji3 : Int).toNat ≤ 70368744177664 then (nat_Mul.l0 k l1 (List.replicate (ji3 : Int).toNat 0) l0 (l0.length : Int) 0) else (none)) else (none)) = some r := by first | (rw [hji3] at H; exact H) | (simp only [hji3] at H ⊢; exact H)
 have hji3w : (IntKind.i64.wrap ((l0.length : Int) + (l1.length : Int))) = ji3 := (i64_w _).trans hji3
 by_cases c4 : 0 ≤ (ji3)
 ·rw [if_pos c4] at H
  have c4b0 := eq_true c4
  have c4b1 : decide (0 ≤ (ji3)) = true := decide_eq_true c4
  clear c4
  by_cases c5 : (ji3 : Int).toNat ≤ 70368744177664
  ·rw [if_pos c5] at H
   have c5b0 := eq_true c5
   have c5b1 : decide ((ji3 : Int).toNat ≤ 70368744177664) = true := decide_eq_true c5
   clear c5
   obtain ⟨y244, hy244⟩ : ∃ y_ : List Int, y_ = (List.replicate (ji3 : Int).toNat 0) := ⟨_, rfl⟩
   replace H : (nat_Mul.l0 k l1 y244 l0 (l0.length : Int) 0) = some r := by first | (rw [hy244]; with_reducible exact H) | (have H2_ := (Option.bind_some _ _).symm.trans H; rw [hy244]; with_reducible exact H2_) | (have H2_ := (Option.bind_some _ _).symm.trans H; with_reducible exact H2_) | with_reducible exact H | (rw [hy244]; exact H) | exact H
   have Ny244 := Aside0.mk hy244
   clear hy244
   have H' := Aside0.mk H
   clear H
   go_enter Try.func62, Try.ntmps62
   go_wp2_with (first | ((with_reducible refine gate_dst (N := 16) rfl ?_); refine Kd.R_make (Kd.int .u32) _ 92 rfl (N := 16) rfl 30 _ _ rfl ji3 rfl rfl Try.underlying30 (.int .u32 0) 4 info92 rfl (by decide) (by omega) 0 (ok := fun _ => True) (okp := fun _ => True) rfl (fun _ hk => hk) trivial (of_decide_eq_true (by first | (with_reducible assumption) | assumption)) (Nat.le_trans (Nat.mul_le_mul_right _ (of_decide_eq_true (by first | (with_reducible assumption) | assumption) : ji3.toNat ≤ 70368744177664)) (by omega)) (Below.refl _ _) (Nat.le_refl _) ?_; intro v245 w6 ho7 hb hg_ hnew_; clear hg_ hnew_; (first | rw [← Ny244.out] at ho7 | (simp only [Int.reduceToNat] at ho7; rw [← Ny244.out] at ho7)); have HO246 := Aside0.mk (Kd.R_lower ho7 (below_size (by repeat (first | (with_reducible first | exact HB.out | apply below_alloc | apply pw_below_drewN | apply below_drew1) | exact HB.out)))); replace HB := Aside0.mk (below_step (by repeat (first | (with_reducible first | exact HB.out | apply below_alloc | apply pw_below_drewN | apply below_drew1) | exact HB.out)) hb); clear hb ho7))
   go_loopg [19] k (fun kq v19 w' => ∃ (x5_1 : List Int) (x19_1 : Int), v19 = .int .i64 x19_1 ∧ Aside0 (nat_Mul.l0 kq l1 x5_1 l0 (l0.length : Int) x19_1 = some r) ∧ Aside0 (kq ≤ k) ∧ Aside0 (Kd.R (Kd.int .u32) 92 w' w.heap.size (fun _ => True) v245 x5_1) ∧ Aside0 (Below w.heap.size w w'))
   case atStart => exact ⟨(y244), (0), (by first | rfl | (simp; done) | (simp [*]; done)), H', ⟨Nat.le_refl _⟩, ⟨by (with_reducible repeat (first | apply Kd.R_alloc | apply Kd.R_drewN | apply Kd.R_drew)); exact HO246.out⟩, ⟨by repeat (first | (with_reducible first | exact HB.out | apply below_alloc | apply pw_below_drewN | apply below_drew1) | exact HB.out)⟩⟩
   case round =>
    clear H'
    try clear c1
    try clear p2
    try clear c4
    try clear c4b0
    try clear c4b1
    try clear c5
    try clear c5b0
    try clear c5b1
    try clear c6
    try clear p6
    obtain ⟨x5_1, x19_1, rfl, HA, HK1, HO_5, HB⟩ := hrel
    cases gk with
    | zero => exact absurd HA.out (by simp [nat_Mul.l0])
    | succ k1 =>
     have H := HA.out
     clear HA
     simp only [nat_Mul.l0] at H
     by_cases c8 : x19_1 < (l0.length : Int)
     ·rw [if_pos c8] at H
      have c8b0 : decide (x19_1 < (l0.length : Int)) = true := decide_eq_true c8
      clear c8
      by_cases c9 : 0 ≤ x19_1
      ·rw [if_pos c9] at H
       have c9b0 : decide (0 ≤ x19_1) = true := decide_eq_true c9
       clear c9
       by_cases c10 : x19_1 < (l0.length : Int)
       ·rw [if_pos c10] at H
        have c10b0 : decide (x19_1 < (l0.length : Int)) = true := decide_eq_true c10
        clear c10
        have H' := Aside0.mk H
        clear H
        have p250 : 0 ≤ (x19_1 : Int) := of_decide_eq_true (by first | (with_reducible assumption) | assumption)
        have q250 : x19_1 < (l0.length : Int) := of_decide_eq_true (by first | (with_reducible assumption) | assumption)
        obtain ⟨ad250, e250, hx250_0⟩ := Kd.at_int HR0.out x19_1 p250 q250
        cases e250
        replace hx250_0 := (HB.out.cell (World.block_lt_of_cell? w _ hx250_0)).trans hx250_0
        replace p250 := eq_true p250
        replace q250 := eq_true q250
        go_wp2
        go_loopg [8, 26] k1 (fun kq v8 v26 w' => ∃ (x5_2 : List Int) (x8_2 : Int) (x26_2 : Int), v8 = .int .u64 x8_2 ∧ v26 = .int .i64 x26_2 ∧ Aside0 (nat_Mul.l1 kq l1 x5_2 x19_1 (rd l0 x19_1) x8_2 l0 (l0.length : Int) x19_1 l1 (l1.length : Int) x26_2 = some r) ∧ Aside0 (kq ≤ k1) ∧ Aside0 (Kd.R (Kd.int .u32) 92 w' w.heap.size (fun _ => True) v245 x5_2) ∧ Aside0 (Below w.heap.size w w'))
        case atStart => exact ⟨(x5_1), (0), (0), (by first | rfl | (simp; done) | (simp [*]; done)), (by first | rfl | (simp; done) | (simp [*]; done)), H', ⟨Nat.le_refl _⟩, ⟨by (with_reducible repeat (first | apply Kd.R_alloc | apply Kd.R_drewN | apply Kd.R_drew)); exact HO_5.out⟩, ⟨by repeat (first | (with_reducible first | exact HB.out | apply below_alloc | apply pw_below_drewN | apply below_drew1) | exact HB.out)⟩⟩
        case round =>
         clear H'
         try clear c1
         try clear p2
         try clear q2
         try clear hx2
         try clear c4
         try clear c4b0
         try clear c4b1
         try clear c5
         try clear c5b0
         try clear c5b1
         try clear c6
         try clear p6
         try clear c8
         try clear c8b0
         try clear c9
         try clear c9b0
         try clear c10
         try clear c10b0
         try clear hx250_0
         try clear p2
         try clear p250
         try clear p6
         try clear q250
         obtain ⟨x5_2, x8_2, x26_2, rfl, rfl, HA, HK2, HO_5, HB⟩ := hrel
         cases gk with
         | zero => exact absurd HA.out (by simp [nat_Mul.l1])
         | succ k2 =>
          have H := HA.out
          clear HA
          simp only [nat_Mul.l1] at H
          by_cases c11 : x26_2 < (l1.length : Int)
          ·rw [if_pos c11] at H
           have c11b0 : decide (x26_2 < (l1.length : Int)) = true := decide_eq_true c11
           clear c11
           by_cases c12 : 0 ≤ x26_2
           ·rw [if_pos c12] at H
            have c12b0 : decide (0 ≤ x26_2) = true := decide_eq_true c12
            clear c12
            by_cases c13 : x26_2 < (l1.length : Int)
            ·rw [if_pos c13] at H
             have c13b0 : decide (x26_2 < (l1.length : Int)) = true := decide_eq_true c13
             clear c13
             obtain ⟨ji14, hji14⟩ : ∃ j_ : Int, (wrap64 (x19_1 + x26_2)) = j_ := ⟨_, rfl⟩
             replace H : (if 0 ≤ (ji14) then (if (ji14) < (x5_2.length : Int) then (nat_Mul.l1 k2 l1 (x5_2.set ((ji14) : Int).toNat ((IntKind.u64.wrap (x8_2 + (IntKind.u64.wrap ((IntKind.u64.wrap ((IntKind.u64.wrap ((rd l0 x19_1))) * (IntKind.u64.wrap (rd l1 x26_2)))) + (IntKind.u64.wrap (rd x5_2 (ji14))))))) % 4294967296)) x19_1 (rd l0 x19_1) ((IntKind.u64.wrap (x8_2 + (IntKind.u64.wrap ((IntKind.u64.wrap ((IntKind.u64.wrap ((rd l0 x19_1))) * (IntKind.u64.wrap (rd l1 x26_2)))) + (IntKind.u64.wrap (rd x5_2 (ji14))))))) / 4294967296) l0 (l0.length : Int) x19_1 l1 (l1.length : Int) (wrap64 (x26_2 + 1))) else (none)) else (none)) = some r := by first | (rw [hji14] at H; exact H) | (simp only [hji14] at H ⊢; exact H)
             have hji14w : (IntKind.i64.wrap (x19_1 + x26_2)) = ji14 := (i64_w _).trans hji14
             by_cases c15 : 0 ≤ (ji14)
             ·rw [if_pos c15] at H
              have c15b0 : decide (0 ≤ (ji14)) = true := decide_eq_true c15
              clear c15
              by_cases c16 : (ji14) < (x5_2.length : Int)
              ·rw [if_pos c16] at H
               have c16b0 : decide ((ji14) < (x5_2.length : Int)) = true := decide_eq_true c16
               clear c16
               obtain ⟨y253, hy253⟩ : ∃ y_ : List Int, y_ = (x5_2.set ((ji14) : Int).toNat ((IntKind.u64.wrap (x8_2 + (IntKind.u64.wrap ((IntKind.u64.wrap ((IntKind.u64.wrap ((rd l0 x19_1))) * (IntKind.u64.wrap (rd l1 x26_2)))) + (IntKind.u64.wrap (rd x5_2 (ji14))))))) % 4294967296)) := ⟨_, rfl⟩
               replace H : (nat_Mul.l1 k2 l1 y253 x19_1 (rd l0 x19_1) ((IntKind.u64.wrap (x8_2 + (IntKind.u64.wrap ((IntKind.u64.wrap ((IntKind.u64.wrap ((rd l0 x19_1))) * (IntKind.u64.wrap (rd l1 x26_2)))) + (IntKind.u64.wrap (rd x5_2 (ji14))))))) / 4294967296) l0 (l0.length : Int) x19_1 l1 (l1.length : Int) (wrap64 (x26_2 + 1))) = some r := by first | (rw [hy253]; with_reducible exact H) | (have H2_ := (Option.bind_some _ _).symm.trans H; rw [hy253]; with_reducible exact H2_) | (have H2_ := (Option.bind_some _ _).symm.trans H; with_reducible exact H2_) | with_reducible exact H | (rw [hy253]; exact H) | exact H
               have Ny253 := Aside0.mk hy253
               clear hy253
               have H' := Aside0.mk H
               clear H
               have p251 : 0 ≤ (x26_2 : Int) := of_decide_eq_true (by first | (with_reducible assumption) | assumption)
               have q251 : x26_2 < (l1.length : Int) := of_decide_eq_true (by first | (with_reducible assumption) | assumption)
               obtain ⟨ad251, e251, hx251_0⟩ := Kd.at_int HR1.out x26_2 p251 q251
               cases e251
               replace hx251_0 := (HB.out.cell (World.block_lt_of_cell? w _ hx251_0)).trans hx251_0
               replace p251 := eq_true p251
               replace q251 := eq_true q251
               obtain ⟨Ao18, co18, eo18⟩ := Kd.R_slice HO_5.out
               subst eo18
               have p252 : 0 ≤ ((ji14) : Int) := of_decide_eq_true (by first | (with_reducible assumption) | assumption)
               have q252 : (ji14) < (x5_2.length : Int) := of_decide_eq_true (by first | (with_reducible assumption) | assumption)
               obtain ⟨ad252, e252, hx252_0⟩ := Kd.at_int (Kd.R_reads' HO_5.out).2.2 (ji14) p252 q252
               cases e252
               replace p252 := eq_true p252
               replace q252 := eq_true q252
               have p17 : 0 ≤ ((ji14) : Int) := of_decide_eq_true (by first | (with_reducible assumption) | assumption)
               have q17 : ((ji14) : Int) < ((x5_2.length : Int) : Int) := of_decide_eq_true (by first | (with_reducible assumption) | assumption)
               obtain ⟨go17, co17, eo17, gb17, gl17, cl17, HG17⟩ := Kd.R_form HO_5.out (by omega)
               (first | cases eo17 | (injection eo17 with ea_ en_ ec_; (first | subst ea_ | (injection ea_ with ea_; subst ea_)); subst ec_; clear en_))
               have GB17 := Aside0.mk gb17
               have GG17 := Aside0.mk HG17
               clear gb17 gl17 HG17
               (first | simp only [add_plain] at hx252_0 | skip)
               obtain ⟨hx17_0, hf17_0⟩ := Kd.R_celln 0 HO_5.out ((ji14) : Int) p17 q17
               replace p17 := eq_true p17
               replace q17 := eq_true q17
               have HP19 := Kd.R_putg HO_5.out ((ji14) : Int) ((IntKind.u64.wrap (x8_2 + (IntKind.u64.wrap ((IntKind.u64.wrap ((IntKind.u64.wrap ((rd l0 x19_1))) * (IntKind.u64.wrap (rd l1 x26_2)))) + (IntKind.u64.wrap (rd x5_2 (ji14))))))) % 4294967296)
               go_wp2_with (first | ((with_reducible refine gate_store (t := 92) (p := 52) rfl ?_); refine store_event (t := 92) (p := 52) (v := ?vo_w20) (w1 := (wr.setCell ⟨go17, ((ji14) : Int).toNat, none⟩ (.int .u32 ((IntKind.u64.wrap (x8_2 + (IntKind.u64.wrap ((IntKind.u64.wrap ((IntKind.u64.wrap ((rd l0 x19_1))) * (IntKind.u64.wrap (rd l1 x26_2)))) + (IntKind.u64.wrap (rd x5_2 (ji14))))))) % 4294967296)))) ?hg ?ho ?hn ?hr ?_; (case ho => rfl); (case hg => rfl); (case hn => rfl); (case hr => first | (go_simp; done) | (go_simp; rfl)); intro w20 hw; have hg : wr.grownBy w20 (some go17) := (by rw [hw]; exact HP19.2); have hp_ : Kd.R (Kd.int .u32) 92 w20 w.heap.size (fun _ => True) (.slice (some ⟨go17, 0, none⟩) x5_2.length co18) y253 := (by rw [hw, Ny253.out]; exact HP19.1); clear HP19; replace HO_5 := Aside0.mk (hp_); replace HB := Aside0.mk ((by rw [hw]; exact below_set (HB.out) GB17.out : Below w.heap.size w w20)); clear hg hw hp_))
               go_roundg k2
               case measure => have := HK1.out; have := HK2.out; omega
               case rel => exact ⟨(y253), ((IntKind.u64.wrap (x8_2 + (IntKind.u64.wrap ((IntKind.u64.wrap ((IntKind.u64.wrap ((rd l0 x19_1))) * (IntKind.u64.wrap (rd l1 x26_2)))) + (IntKind.u64.wrap (rd x5_2 (ji14))))))) / 4294967296), (wrap64 (x26_2 + 1)), (by first | rfl | (simp; done) | (simp only [← hji14] <;> (first | rfl | simp)) | (simp [*]; done)), (by first | rfl | (simp; done) | (simp [*]; done)), H', ⟨by have := HK1.out; have := HK2.out; omega⟩, ⟨by (with_reducible repeat (first | apply Kd.R_alloc | apply Kd.R_drewN | apply Kd.R_drew)); exact HO_5.out⟩, ⟨by repeat (first | (with_reducible first | exact HB.out | apply below_alloc | apply pw_below_drewN | apply below_drew1) | exact HB.out)⟩⟩
              ·rw [if_neg c16] at H
               exact absurd H (by simp)
             ·rw [if_neg c15] at H
              exact absurd H (by simp)
            ·rw [if_neg c13] at H
             exact absurd H (by simp)
           ·rw [if_neg c12] at H
            exact absurd H (by simp)
          ·rw [if_neg c11] at H
           have c11b0 : decide (x26_2 < (l1.length : Int)) = false := decide_eq_false c11
           clear c11
           obtain ⟨ji21, hji21⟩ : ∃ j_ : Int, (wrap64 (x19_1 + (l1.length : Int))) = j_ := ⟨_, rfl⟩
           replace H : (if 0 ≤ (ji21) then (if (ji21) < (x5_2.length : Int) then (nat_Mul.l0 k2 l1 (x5_2.set ((ji21) : Int).toNat ((x8_2) % 4294967296)) l0 (l0.length : Int) (wrap64 (x19_1 + 1))) else (none)) else (none)) = some r := by first | (rw [hji21] at H; exact H) | (simp only [hji21] at H ⊢; exact H)
           have hji21w : (IntKind.i64.wrap (x19_1 + (l1.length : Int))) = ji21 := (i64_w _).trans hji21
           by_cases c22 : 0 ≤ (ji21)
           ·rw [if_pos c22] at H
            have c22b0 : decide (0 ≤ (ji21)) = true := decide_eq_true c22
            clear c22
            by_cases c23 : (ji21) < (x5_2.length : Int)
            ·rw [if_pos c23] at H
             have c23b0 : decide ((ji21) < (x5_2.length : Int)) = true := decide_eq_true c23
             clear c23
             obtain ⟨y254, hy254⟩ : ∃ y_ : List Int, y_ = (x5_2.set ((ji21) : Int).toNat ((x8_2) % 4294967296)) := ⟨_, rfl⟩
             replace H : (nat_Mul.l0 k2 l1 y254 l0 (l0.length : Int) (wrap64 (x19_1 + 1))) = some r := by first | (rw [hy254]; with_reducible exact H) | (have H2_ := (Option.bind_some _ _).symm.trans H; rw [hy254]; with_reducible exact H2_) | (have H2_ := (Option.bind_some _ _).symm.trans H; with_reducible exact H2_) | with_reducible exact H | (rw [hy254]; exact H) | exact H
             have Ny254 := Aside0.mk hy254
             clear hy254
             have H' := Aside0.mk H
             clear H
             have p24 : 0 ≤ ((ji21) : Int) := of_decide_eq_true (by first | (with_reducible assumption) | assumption)
             have q24 : ((ji21) : Int) < ((x5_2.length : Int) : Int) := of_decide_eq_true (by first | (with_reducible assumption) | assumption)
             obtain ⟨go24, co24, eo24, gb24, gl24, cl24, HG24⟩ := Kd.R_form HO_5.out (by omega)
             (first | cases eo24 | (injection eo24 with ea_ en_ ec_; (first | subst ea_ | (injection ea_ with ea_; subst ea_)); subst ec_; clear en_))
             have GB24 := Aside0.mk gb24
             have GG24 := Aside0.mk HG24
             clear gb24 gl24 HG24
             obtain ⟨hx24_0, hf24_0⟩ := Kd.R_celln 0 HO_5.out ((ji21) : Int) p24 q24
             replace p24 := eq_true p24
             replace q24 := eq_true q24
             have HP25 := Kd.R_putg HO_5.out ((ji21) : Int) ((x8_2) % 4294967296)
             go_wp2_with (first | ((with_reducible refine gate_store (t := 92) (p := 63) rfl ?_); refine store_event (t := 92) (p := 63) (v := ?vo_w26) (w1 := (wr.setCell ⟨go24, ((ji21) : Int).toNat, none⟩ (.int .u32 ((x8_2) % 4294967296)))) ?hg ?ho ?hn ?hr ?_; (case ho => rfl); (case hg => rfl); (case hn => rfl); (case hr => first | (go_simp; done) | (go_simp; rfl)); intro w26 hw; have hg : wr.grownBy w26 (some go24) := (by rw [hw]; exact HP25.2); have hp_ : Kd.R (Kd.int .u32) 92 w26 w.heap.size (fun _ => True) (.slice (some ⟨go24, 0, none⟩) x5_2.length co24) y254 := (by rw [hw, Ny254.out]; exact HP25.1); clear HP25; replace HO_5 := Aside0.mk (hp_); replace HB := Aside0.mk ((by rw [hw]; exact below_set (HB.out) GB24.out : Below w.heap.size w w26)); clear hg hw hp_))
             go_roundg k2
             case measure => have := HK1.out; have := HK2.out; omega
             case rel => exact ⟨(y254), (wrap64 (x19_1 + 1)), (by first | rfl | (simp; done) | (simp [*]; done)), H', ⟨by have := HK1.out; have := HK2.out; omega⟩, ⟨by (with_reducible repeat (first | apply Kd.R_alloc | apply Kd.R_drewN | apply Kd.R_drew)); exact HO_5.out⟩, ⟨by repeat (first | (with_reducible first | exact HB.out | apply below_alloc | apply pw_below_drewN | apply below_drew1) | exact HB.out)⟩⟩
            ·rw [if_neg c23] at H
             exact absurd H (by simp)
           ·rw [if_neg c22] at H
            exact absurd H (by simp)
       ·rw [if_neg c10] at H
        exact absurd H (by simp)
      ·rw [if_neg c9] at H
       exact absurd H (by simp)
     ·rw [if_neg c8] at H
      have c8b0 : decide (x19_1 < (l0.length : Int)) = false := decide_eq_false c8
      clear c8
      replace H := Option.bind_eq_some_iff.mp H
      obtain ⟨t247, A270, H⟩ := H
      replace H : (some t247) = some r := H
      have A27 := Aside0.mk A270
      clear A270
      obtain rfl := Option.some.inj H
      obtain ⟨Ao28, co28, eo28⟩ := Kd.R_slice HO_5.out
      subst eo28
      go_wp2_with (first | ((with_reducible refine gate_callee (f := 71) rfl ?_); refine Short.goesS_ (some 66) Try.func71 #[.slice Ao28 x5_1.length co28] ?_; (with_reducible refine (nat_trim.calls k1 _ _ x5_1 t247 _ ((Kd.R_reads' HO_5.out).2.2) ((Kd.R_reads' HO_5.out).2.1) A27.out).mono ?_); rintro e w29 ⟨v248, rfl, ho0, hb⟩; refine ⟨_, rfl, ?_⟩; have HO249 := Aside0.mk (Kd.R_lower (Kd.R_new' ho0 (Kd.R_lt HO_5.out)) (below_size (by repeat (first | (with_reducible first | exact HB.out | apply below_alloc | apply pw_below_drewN | apply below_drew1) | exact HB.out)))); replace HO_5 := Aside0.mk (Kd.R_elder' HO_5.out (Kd.R_base ho0) hb); replace HB := Aside0.mk (below_step (by repeat (first | (with_reducible first | exact HB.out | apply below_alloc | apply pw_below_drewN | apply below_drew1) | exact HB.out)) hb); (try clear hb); (try clear ho0)))
      go_ret
      exact ⟨_, by first | rfl | (simp [errW_none, errW_some] <;> rfl) | (simp only [← hji3]; first | rfl | (simp [errW_none, errW_some] <;> rfl)) | (simp [*, errW_none, errW_some] <;> rfl), by (with_reducible repeat (first | apply Kd.R_alloc | apply Kd.R_drewN | apply Kd.R_drew)); exact Kd.R_mono HO249.out (fun _ hk => trivial), by repeat (first | (with_reducible first | exact HB.out | apply below_alloc | apply pw_below_drewN | apply below_drew1) | exact HB.out)⟩
  ·rw [if_neg c5] at H
   exact absurd H (by simp)
 ·rw [if_neg c4] at H
  exact absurd H (by simp)

theorem nat_Mul.ev_in {a b : List Int} (ha : Num.Ws a) (hb : Num.Ws b) (hla : a.length < 1099511627776) (hlb : b.length < 1099511627776) {i p : Nat} (hi : i < a.length) (hp : p < 4294967296) (y : List Int) (R : List Int)
  (hend : ∀ x : List Int, x.length = a.length + b.length → Num.Ws x → ∀ c : Nat, c < 4294967296 → (∀ t, i + b.length ≤ t → x.getD t 0 = y.getD t 0) → Num.nv x + 2 ^ (32 * (i + b.length)) * c = Num.nv y + 2 ^ (32 * i) * (p * Num.nv b) →
   Ev (fun k => nat_Mul.l0 k b (x.set (i + b.length) ((c : Int) % 4294967296)) a (a.length : Int) ((i + 1 : Nat) : Int)) R) (d : Nat) :
  ∀ (j : Nat) (x : List Int) (c : Nat), j + d = b.length → x.length = a.length + b.length → Num.Ws x → c < 4294967296 → (∀ t, i + j ≤ t → x.getD t 0 = y.getD t 0) → Num.nv x + 2 ^ (32 * (i + j)) * c = Num.nv y + 2 ^ (32 * i) * (p * Num.nv (b.take j)) →
   Ev (fun k => nat_Mul.l1 k b x (i : Int) (p : Int) (c : Int) a (a.length : Int) (i : Int) b (b.length : Int) (j : Int)) R := by
 induction d with
 | zero =>
  intro j x c hj hx hW hc hs hv
  obtain rfl : j = b.length := by omega
  rw [List.take_length] at hv
  have c1 : ¬ (b.length : Int) < (b.length : Int) := by omega
  have c2 : 0 ≤ ((i + b.length : Nat) : Int) := by omega
  have c3 : ((i + b.length : Nat) : Int) < (x.length : Int) := by omega
  have b1 : i + b.length < 9223372036854775808 := by omega
  have b2 : i + 1 < 9223372036854775808 := by omega
  refine Ev.step (f := fun k => nat_Mul.l0 k b (x.set (i + b.length) ((c : Int) % 4294967296)) a (a.length : Int) ((i + 1 : Nat) : Int)) (fun k => ?_) (hend x hx hW c hc hs hv)
  simp only [nat_Mul.l1, w64_add i b.length b1, w64_succ i b2]
  rw [if_neg c1, if_pos c2, if_pos c3, Int.toNat_natCast]
 | succ d ih =>
  intro j x c hj hx hW hc hs hv
  have hgb := hb.getD j
  have hgx := hW.getD (i + j)
  obtain ⟨q, hq⟩ : ∃ q : Nat, (q : Int) = b.getD j 0 := ⟨(b.getD j 0).toNat, by omega⟩
  obtain ⟨u, hu⟩ : ∃ u : Nat, (u : Int) = x.getD (i + j) 0 := ⟨(x.getD (i + j) 0).toNat, by omega⟩
  have hpq : p * q ≤ 4294967295 * 4294967295 := Nat.mul_le_mul (by omega) (by omega)
  have b0 : i + j < 9223372036854775808 := by omega
  have b1 : j + 1 < 9223372036854775808 := by omega
  have b2 : p < 18446744073709551616 := by omega
  have b3 : q < 18446744073709551616 := by omega
  have b4 : u < 18446744073709551616 := by omega
  have b5 : p * q < 18446744073709551616 := by omega
  have b6 : p * q + u < 18446744073709551616 := by omega
  have b7 : c + (p * q + u) < 18446744073709551616 := by omega
  have b8 : (c + (p * q + u)) / 4294967296 < 4294967296 := by omega
  have c1 : (j : Int) < (b.length : Int) := by omega
  have c2 : 0 ≤ (j : Int) := by omega
  have c4 : 0 ≤ ((i + j : Nat) : Int) := by omega
  have c5 : ((i + j : Nat) : Int) < (x.length : Int) := by omega
  refine Ev.step (f := fun k => nat_Mul.l1 k b (x.set (i + j) (((c + (p * q + u)) % 4294967296 : Nat) : Int)) (i : Int) (p : Int) (((c + (p * q + u)) / 4294967296 : Nat) : Int) a (a.length : Int) (i : Int) b (b.length : Int) ((j + 1 : Nat) : Int)) (fun k => ?_) ?_
  ·simp only [nat_Mul.l1, w64_add i j b0, w64_succ j b1]
   rw [if_pos c1, if_pos c2, if_pos c1, if_pos c4, if_pos c5, rd_at hq, rd_at hu, u64_nat p b2, u64_nat q b3, u64_nat u b4, u64_mul p q b5, u64_add (p * q) u b6, u64_add c (p * q + u) b7, mod32_nat, div32_nat, Int.toNat_natCast]
  ·refine ih (j + 1) _ _ (by omega) (by rw [List.length_set]; exact hx) (hW.set _ (by omega) (by omega)) b8 ?_ ?_
   ·intro t ht
    rw [← hs t (by omega), List.getD_eq_getElem?_getD, List.getElem?_set_ne (by omega), ← List.getD_eq_getElem?_getD]
   ·have v1 := Num.nv_set (l := x) (i := i + j) (by omega) (((c + (p * q + u)) % 4294967296 : Nat) : Int)
    rw [← hu, Int.toNat_natCast, Int.toNat_natCast] at v1
    have hsp := Num.split_mul (2 ^ (32 * (i + j))) (c + (p * q + u))
    have h2 : 2 ^ (32 * (i + j)) * (c + (p * q + u)) = 2 ^ (32 * (i + j)) * c + (2 ^ (32 * (i + j)) * (p * q) + 2 ^ (32 * (i + j)) * u) := by rw [Nat.mul_add (2 ^ (32 * (i + j))), Nat.mul_add (2 ^ (32 * (i + j)))]
    have h3 : 2 ^ (32 * i) * (p * Num.nv (b.take (j + 1))) = 2 ^ (32 * i) * (p * Num.nv (b.take j)) + 2 ^ (32 * (i + j)) * (p * q) := by
     have h4 : 2 ^ (32 * (i + j)) = 2 ^ (32 * i) * 2 ^ (32 * j) := by rw [← Nat.pow_add]; congr 1; omega
     rw [Num.nv_take_succ, ← hq, Int.toNat_natCast, h4, Nat.mul_add p, Nat.mul_add (2 ^ (32 * i)), Nat.mul_left_comm p, Nat.mul_assoc]
    rw [h3, show i + (j + 1) = i + j + 1 from rfl, Num.pow_succ32]
    omega
theorem nat_Mul.ev_out {a b : List Int} (ha : Num.Ws a) (hb : Num.Ws b) (hla : a.length < 1099511627776) (hlb : b.length < 1099511627776) (d : Nat) : ∀ (i : Nat) (x : List Int), i + d = a.length → x.length = a.length + b.length → Num.Ws x →
  Num.nv x = Num.nv (a.take i) * Num.nv b → Ev (fun k => nat_Mul.l0 k b x a (a.length : Int) (i : Int)) (Num.nd (Num.nv a * Num.nv b)) := by
 induction d with
 | zero =>
  intro i x hi hx hW hv
  obtain rfl : i = a.length := by omega
  rw [List.take_length] at hv
  have c1 : ¬ (a.length : Int) < (a.length : Int) := by omega
  refine Ev.step (f := fun k => (nat_trim.f k x).bind fun t => some t) (fun k => ?_) ?_
  ·simp only [nat_Mul.l0]
   rw [if_neg c1]
  ·rw [← hv]
   exact Ev.bind (nat_trim.ev hW (by omega)) (Ev.now _)
 | succ d ih =>
  intro i x hi hx hW hv
  have hga := ha.getD i
  obtain ⟨p, hp⟩ : ∃ p : Nat, (p : Int) = a.getD i 0 := ⟨(a.getD i 0).toNat, by omega⟩
  have c1 : (i : Int) < (a.length : Int) := by omega
  have c2 : 0 ≤ (i : Int) := by omega
  have htk := Num.nv_take_lt ha i (by omega)
  have hbl := Num.nv_lt hb
  refine Ev.step (f := fun k => nat_Mul.l1 k b x (i : Int) (p : Int) 0 a (a.length : Int) (i : Int) b (b.length : Int) 0) (fun k => ?_) ?_
  ·simp only [nat_Mul.l0]
   rw [if_pos c1, if_pos c2, if_pos c1, rd_at hp]
  ·refine nat_Mul.ev_in ha hb hla hlb (by omega) (by omega) x _ ?_ b.length 0 x 0 (by omega) hx hW (by omega) (fun t _ => rfl) (by simp [Num.nv])
   intro x' hx' hW' c hc hs hv'
   have e : (c : Int) % 4294967296 = (c : Int) := by omega
   rw [e]
   -- the word at i + b.length was a nought
   have hxlt : Num.nv x < 2 ^ (32 * (i + b.length)) * 1 := by
    rw [hv, Nat.mul_one, show 32 * (i + b.length) = 32 * i + 32 * b.length from by omega, Nat.pow_add]
    exact Nat.mul_lt_mul'' htk hbl
   have h0 := (Num.nv_top (l := x) (j := i + b.length) (R := 1) (by omega) (by omega) hxlt).1
   have hz : x'.getD (i + b.length) 0 = x.getD (i + b.length) 0 := hs _ (Nat.le_refl _)
   have v1 := Num.nv_set (l := x') (i := i + b.length) (by omega) (c : Int)
   rw [hz, show (x.getD (i + b.length) 0).toNat = 0 from by omega, Nat.mul_zero, Nat.add_zero, Int.toNat_natCast] at v1
   refine ih (i + 1) _ (by omega) (by rw [List.length_set]; exact hx') (hW'.set _ (by omega) (by omega)) ?_
   rw [v1, hv', hv, Num.nv_take_succ, ← hp, Int.toNat_natCast, Nat.add_mul, Nat.mul_assoc (2 ^ (32 * i))]
theorem nat_Mul.ev {a b : List Int} (ha : Num.okw a = true) (hb : Num.okw b = true) : Ev (fun k => nat_Mul.f k a b) (Num.nd (Num.nv a * Num.nv b)) := by
 obtain ⟨la, wa⟩ := (Num.okw_iff a).1 ha
 obtain ⟨lb, wb⟩ := (Num.okw_iff b).1 hb
 have h := nat_Mul.ev_out wa wb la lb a.length 0 (List.replicate (a.length + b.length) 0) (by omega) (by simp) (Num.Ws.replicate _) (by simp [Num.nv, Num.nv_replicate])
 have b1 : a.length + b.length < 9223372036854775808 := by omega
 have c1 : 0 ≤ ((a.length + b.length : Nat) : Int) := by omega
 have c2 : a.length + b.length ≤ 70368744177664 := by omega
 refine Ev.congr (fun k => ?_) h
 unfold nat_Mul.f
 rw [w64_add _ _ b1, if_pos c1, Int.toNat_natCast, if_pos c2]
 rfl
set_option synthInstance.checkSynthOrder false in
open Lin in
instance nat_Mul.t {k : Nat} {l0 : List Int} {l1 : List Int} {r : List Int} [h : Ans (nat_Mul.f k l0 l1) r] : Tl Try.prog 62 [.one (.row l0), .one (.row l1)] (.el (.one (.row r))) := ⟨Tells.of Try.func62 fun out w vs ho hl hv => by
 obtain ⟨u0, u1, rfl, h0, h1⟩ := args2 hl hv
 obtain ⟨A0, c0, rfl, hc0, hr0, hb0⟩ := h0
 obtain ⟨A1, c1, rfl, hc1, hr1, hb1⟩ := h1
 refine (nat_Mul.calls k A0 c0 l0 A1 c1 l1 _ w hr0 hc0 hr1 hc1 h.out).mono ?_
 rintro e w' ⟨v0_, rfl, gv0_, hb⟩
 exact ⟨_, rfl, row_R gv0_ ho, hb⟩⟩
def whole_Mul.f (k : Nat) (a0_0 : Bool) (l0_1 : List Int) (a1_0 : Bool) (l1_1 : List Int) : Option (Bool × List Int) := (whole_Sign.f k a0_0 l0_1).bind fun t258 => ((whole_Sign.f k a1_0 l1_1).bind fun t259 => ((nat_Mul.f k l0_1 l1_1).bind fun t260 => ((whole_Make.f k (decide ((wrap64 (t258 * t259)) < 0)) t260).bind fun bt263 => (some (bt263.1, bt263.2)))))
theorem whole_Mul.ev {m m' : Bool} {l l' : List Int} {a b : Int} {K J : Nat} (ha : Zn.Is m l a K) (hb : Zn.Is m' l' b J) (hK : K + J < 1000000) : Ev (fun k => whole_Mul.f k m l m' l') (Zn.zd (a * b)) := by
 have M := nat_Mul.ev (ha.ok (by omega)) (hb.ok (by omega))
 rw [← ha.abs, ← hb.abs] at M
 unfold whole_Mul.f
 refine Ev.bind (whole_Sign.ev ha (by omega)) (Ev.bind (whole_Sign.ev hb (by omega)) (Ev.bind M ?_))
 have d : decide (wrap64 (a.sign * b.sign) < 0) = decide (a * b < 0) := by rw [Zn.w64_sign]; exact decide_eq_decide.2 (Zn.sign_mul_neg a b)
 have R := whole_Make.ev (Zn.Is.nd (m := decide (a * b < 0)) (Num.mul_lt ha.lt hb.lt)) hK
 rw [Zn.mul_sign] at R
 refine Ev.congr (fun k => ?_) (Ev.bind R (Ev.now _))
 rw [d]
set_option synthInstance.checkSynthOrder false in
open Lin in
set_option maxHeartbeats 4000000 in
instance whole_Mul.t {k : Nat} {a0_0 : Bool} {l0_1 : List Int} {a1_0 : Bool} {l1_1 : List Int} {r : Bool × List Int} [h : Ans (whole_Mul.f k a0_0 l0_1 a1_0 l1_1) r] : Tl Try.prog 86 [.agg [.val (.bool a0_0), .row l0_1], .agg [.val (.bool a1_0), .row l1_1]] (.el (.agg [.val (.bool r.1), .row r.2])) := by
 have h := h.out
 unfold whole_Mul.f at h
 repeat' (first | (replace h := Lin.bndK h) | (replace h := Lin.bnd h; obtain ⟨_, _, h⟩ := h) | split at h | cases h)
 all_goals exact ⟨Tells.go Try.func86 Try.ntmps86⟩
def rat_over.f (k : Nat) (a0_0 : Bool) (l0_1 : List Int) (l0_2 : List Int) (a1_0 : Bool) (l1_1 : List Int) (l1_2 : List Int) : Option (Bool × List Int) := (rat_den.f k a1_0 l1_1 l1_2).bind fun t270 => ((whole_Make.f k false t270).bind fun bt273 => ((whole_Mul.f k a0_0 l0_1 bt273.1 bt273.2).bind fun bt277 => (some (bt277.1, bt277.2))))
theorem rat_over.ev {m m' : Bool} {l1 l2 k1 k2 : List Int} {a b : Rat} {K J : Nat} (ha : Qn.Is m l1 l2 a K) (hb : Qn.Is m' k1 k2 b J) (hJ1 : 1 ≤ J) (hK : K + J < 400000) : Ev (fun k => rat_over.f k m l1 l2 m' k1 k2) (Zn.zd (Zn.zv m (Num.nv l1) * ((Qn.dn (Num.nv k2) : Nat) : Int))) := by
 have lb := hb.len
 have Lb := Qn.len_dl lb hJ1
 have I : Zn.Is false (Qn.dl k2) ((Qn.dn (Num.nv k2) : Nat) : Int) J := ⟨Qn.ws_dl hb.ws, Lb, by rw [Qn.nv_dl]; rfl⟩
 unfold rat_over.f
 exact Ev.bind (rat_den.ev hb.ws (by omega)) (Ev.bind (whole_Make.ev I (by omega)) (Ev.bind (whole_Mul.ev ha.num (Zn.Is.zd I.lt) (by omega)) (Ev.now _)))
set_option synthInstance.checkSynthOrder false in
open Lin in
set_option maxHeartbeats 4000000 in
instance rat_over.t {k : Nat} {a0_0 : Bool} {l0_1 : List Int} {l0_2 : List Int} {a1_0 : Bool} {l1_1 : List Int} {l1_2 : List Int} {r : Bool × List Int} [h : Ans (rat_over.f k a0_0 l0_1 l0_2 a1_0 l1_1 l1_2) r] : Tl Try.prog 55 [.agg [.val (.bool a0_0), .row l0_1, .row l0_2], .agg [.val (.bool a1_0), .row l1_1, .row l1_2]] (.el (.agg [.val (.bool r.1), .row r.2])) := by
 have h := h.out
 unfold rat_over.f at h
 repeat' (first | (replace h := Lin.bndK h) | (replace h := Lin.bnd h; obtain ⟨_, _, h⟩ := h) | split at h | cases h)
 all_goals exact ⟨Tells.go Try.func55 Try.ntmps55⟩
def rat_Compare.f (k : Nat) (a0_0 : Bool) (l0_1 : List Int) (l0_2 : List Int) (a1_0 : Bool) (l1_1 : List Int) (l1_2 : List Int) : Option (Int) := (rat_over.f k a0_0 l0_1 l0_2 a1_0 l1_1 l1_2).bind fun bt283 => ((rat_over.f k a1_0 l1_1 l1_2 a0_0 l0_1 l0_2).bind fun bt287 => ((whole_Compare.f k bt283.1 bt283.2 bt287.1 bt287.2).bind fun t291 => (some t291)))
theorem rat_Compare.ev {m m' : Bool} {l1 l2 k1 k2 : List Int} {a b : Rat} {K J : Nat} (ha : Qn.Is m l1 l2 a K) (hb : Qn.Is m' k1 k2 b J) (hK1 : 1 ≤ K) (hJ1 : 1 ≤ J) (hK : K + J < 300000) : Ev (fun k => rat_Compare.f k m l1 l2 m' k1 k2) (a - b).num.sign := by
 have da := Qn.dn_lt ha.ws ha.len hK1
 have db := Qn.dn_lt hb.ws hb.len hJ1
 have x1 := Zn.abs_mul ha.num.lt (Qn.cast_abs db)
 have x2 := Zn.abs_mul hb.num.lt (Qn.cast_abs da)
 have C := whole_Compare.ev (Zn.Is.zd x1) (Zn.Is.zd x2) (by omega) (by omega)
 rw [← Qn.sign_num _ (Qn.dn (Num.nv l2) * Qn.dn (Num.nv k2)) (Nat.mul_ne_zero (Qn.dn_ne _) (Qn.dn_ne _)), ← Qn.sub_mk _ _ (Qn.dn_ne _) (Qn.dn_ne _), ha.val, hb.val] at C
 unfold rat_Compare.f
 exact Ev.bind (rat_over.ev ha hb hJ1 (by omega)) (Ev.bind (rat_over.ev hb ha hK1 (by omega)) (Ev.bind C (Ev.now _)))
set_option synthInstance.checkSynthOrder false in
open Lin in
set_option maxHeartbeats 4000000 in
instance rat_Compare.t {k : Nat} {a0_0 : Bool} {l0_1 : List Int} {l0_2 : List Int} {a1_0 : Bool} {l1_1 : List Int} {l1_2 : List Int} {r : Int} [h : Ans (rat_Compare.f k a0_0 l0_1 l0_2 a1_0 l1_1 l1_2) r] : Tl Try.prog 24 [.agg [.val (.bool a0_0), .row l0_1, .row l0_2], .agg [.val (.bool a1_0), .row l1_1, .row l1_2]] (.el (.one (.val (.int .i64 r)))) := by
 have h := h.out
 unfold rat_Compare.f at h
 repeat' (first | (replace h := Lin.bndK h) | (replace h := Lin.bnd h; obtain ⟨_, _, h⟩ := h) | split at h | cases h)
 all_goals exact ⟨Tells.go Try.func24 Try.ntmps24⟩
section
open Lin Flo Ieee
/-- How far above a fraction it lies (its sign alone is asked). -/
def D (b : Nat) (a : Rat) : Int := sv b * (a.den : Int) - a.num * ((2 ^ place : Nat) : Int)
theorem cmp_D (b : Nat) (a : Rat) : (fq b - a).num.sign = (D b a).sign := by
  have h : fq b - a = mkRat (D b a) (2 ^ place * a.den) := by
    have := Qn.sub_mk (sv b) a.num (Nat.ne_of_gt (Nat.two_pow_pos place)) a.den_nz
    rw [Rat.mkRat_self] at this
    exact this
  rw [h]
  exact Qn.sign_num _ _ (Nat.mul_ne_zero (Nat.ne_of_gt (Nat.two_pow_pos _)) a.den_nz)
theorem sv_of {r : Nat} (h : r < 9223372036854775808) : sv r = (vn r : Int) := by unfold sv; rw [neg_of h, rung_of h]; rfl
theorem D_lt {r s : Nat} (a : Rat) (hs : s < 9223372036854775808) (h : r < s) : D r a < D s a := by
  unfold D
  rw [sv_of hs, sv_of (Nat.lt_trans h hs)]
  have h1 : (vn r : Int) < (vn s : Int) := by exact_mod_cast vn_lt h
  have h2 : (0 : Int) < (a.den : Int) := by have := a.den_pos; omega
  have := Int.mul_lt_mul_of_pos_right h1 h2
  omega
theorem D_zero {a : Rat} (ha : 0 ≤ a.num) : D 0 a ≤ 0 := by
  unfold D
  rw [sv_of (by decide), vn_zero]
  have : 0 ≤ a.num * ((2 ^ place : Nat) : Int) := Int.mul_nonneg ha (Int.natCast_nonneg _)
  simp
  exact this
theorem top_lt {r : Nat} (h : r ≤ top) : r < 9223372036854775808 := Nat.lt_of_le_of_lt h (by decide)
/-- The greatest one that is not above. -/
structure Low (a : Rat) (r : Nat) : Prop where
  lt : r < top
  le : D r a ≤ 0
  up : r + 1 = top ∨ 0 < D (r + 1) a
theorem Low.uniq {a : Rat} {r s : Nat} (h : Low a r) (k : Low a s) : r = s := by
  have key : ∀ {r s : Nat}, Low a r → Low a s → ¬ r < s := fun {r s} h k hlt => by
    rcases h.up with e | e
    · have := k.lt; omega
    · rcases Nat.lt_or_ge (r + 1) s with h1 | h1
      · have := D_lt a (top_lt (Nat.le_of_lt k.lt)) h1; have := k.le; omega
      · have e2 : r + 1 = s := by omega
        rw [e2] at e
        have := k.le
        omega
  have := key h k
  have := key k h
  omega
theorem Low.exists {a : Rat} (ha : 0 ≤ a.num) : ∃ r, Low a r := by
  have key : ∀ d n : Nat, n + d + 1 = top → D n a ≤ 0 → ∃ r, Low a r := by
    intro d
    induction d with
    | zero =>
      intro n h1 h2
      exact ⟨n, by omega, h2, .inl (by omega)⟩
    | succ d ih =>
      intro n h1 h2
      by_cases h : 0 < D (n + 1) a
      · exact ⟨n, by omega, h2, .inr h⟩
      · exact ih (n + 1) (by omega) (by omega)
  exact key (top - 1) 0 (by decide) (D_zero ha)
@[irreducible] def wide : Nat := 66
theorem wide_eq : wide = 66 := by unfold wide; rfl
theorem vn_bound {r : Nat} (h : r ≤ top) : vn r < 2 ^ (32 * wide) := by
  refine Nat.lt_of_le_of_lt (vn_le h) ?_
  rw [show top = 2047 * 4503599627370496 + 0 from rfl, vn_mul (by decide) (by decide)]
  obtain ⟨K, hK⟩ : ∃ K, K = 2047 - 1 := ⟨_, rfl⟩
  rw [← hK, show (4503599627370496 + 0 : Nat) = 2 ^ 52 by decide, ← Nat.pow_add]
  exact Nat.pow_lt_pow_right (by omega) (by rw [wide_eq]; omega)
theorem fq_sm {b : Nat} (h : rung b < top) : Qn.Sm (fq b) wide := by
  refine Qn.Sm.mk' (Nat.ne_of_gt (Nat.two_pow_pos _)) ?_ (Nat.pow_lt_pow_right (by omega) (by rw [place_eq, wide_eq]; omega))
  rw [sv_zv, Zn.natAbs_zv]
  exact vn_bound (Nat.le_of_lt h)
theorem Cmp_a {b : Nat} (hf : rung b < top) {m : Bool} {l1 l2 : List Int} {a : Rat} {J : Nat} (ha : Qn.Is m l1 l2 a J) (hJ1 : 1 ≤ J) (hJ : J ≤ 10000) : ∃ k, Ans (rat_Compare.f k (Qn.qd (fq b)).1 (Qn.qd (fq b)).2.1 (Qn.qd (fq b)).2.2 m l1 l2) (D b a).sign := by
  obtain ⟨k, h⟩ := (rat_Compare.ev (Qn.Is.qd (fq_sm hf)) ha (by rw [wide_eq]; omega) hJ1 (by rw [wide_eq]; omega)).rounds
  exact ⟨k, ⟨by rw [h, cmp_D]⟩⟩
theorem Same_t {b : Nat} (hb : b < 18446744073709551616) (hf : rung b < top) {m : Bool} {l1 l2 : List Int} {a : Rat} {J : Nat} (ha : Qn.Is m l1 l2 a J) (hJ1 : 1 ≤ J) (hJ : J ≤ 10000) : Tl Try.prog 18 [.one (.val (.float .f64 b)), .agg [.val (.bool m), .row l1, .row l2]] (.el (.one (.val (.bool ((D b a).sign == 0))))) := by
  obtain ⟨k, A⟩ := Cmp_a hf ha hJ1 hJ
  have E := Exact_t hb hf
  exact ⟨Tells.goF Try.func18 Try.ntmps18⟩
theorem down_t {m : Bool} {l1 l2 : List Int} {a : Rat} {J r : Nat} (ha : Qn.Is m l1 l2 a J) (hJ1 : 1 ≤ J) (hJ : J ≤ 10000) (h0 : 0 ≤ a.num) (hr : Low a r) : Tl Try.prog 53 [.agg [.val (.bool m), .row l1, .row l2]] (.el (.one (.val (.float .f64 r)))) := by
  refine ⟨Tells.body Try.func53 (by rfl) (by kernel_rfl) ?_ (by kernel_rfl)⟩
  rw [Try.ntmps53]
  refine AWp.seq ?_
  repeat' (first
      | refine Run.mv ?_ | refine Run.asg ?_ | refine Run.call1 ?_ | refine Run.bx ?_ | refine Run.endF ?_ | refine Run.endT ?_ | refine K.thenN ?_ | refine AWp.seq ?_ | refine AWp.regF ?_ | refine AWp.regT ?_ | refine AWp.block ?_)
  refine AWp.loop (X := Nat × Nat) (fun x => x.1 < x.2 ∧ x.2 ≤ top ∧ D x.1 a ≤ 0 ∧ (x.2 = top ∨ 0 < D x.2 a)) (fun x => ⟨32, [(1, .ptr 1 0), (3, .rs (.el (.one (.val (.int .u64 (x.1 : Int)))))), (4, .rs (.el (.one (.val (.int .u64 (x.2 : Int))))))], [(1, 34, [.val (.bool m), .row l1, .row l2])]⟩) (fun x => x.2 - x.1) (0, top) ⟨by decide, by decide, D_zero h0, .inl rfl⟩ ?_ ?_
  · exact ⟨rfl, ⟨rfl, rfl, rfl, trivial⟩, ⟨rfl, trivial⟩, rfl⟩
  · rintro ⟨lo, hi⟩ ⟨h1, h2, h3, h4⟩
    have h1 : lo < hi := h1
    have h2 : hi ≤ top := h2
    have h3 : D lo a ≤ 0 := h3
    have h4 : hi = top ∨ 0 < D hi a := h4
    have hb := top_lt h2
    have w1 : IntKind.u64.wrap ((lo : Int) + 1) = lo + 1 := wrapU (by omega) (by omega)
    by_cases hc : lo + 1 < hi
    · have c1 : decide (IntKind.u64.wrap ((lo : Int) + 1) < (hi : Int)) = true := decide_eq_true (by rw [w1]; omega)
      obtain ⟨x, hx⟩ : ∃ x, x = (lo + hi) / 2 := ⟨_, rfl⟩
      have w2 : IntKind.u64.wrap ((IntKind.u64.wrap ((lo : Int) + (hi : Int))).tdiv 2) = (x : Int) := by
        rw [wrapU (n := (lo : Int) + (hi : Int)) (by omega) (by omega), Int.tdiv_eq_ediv_of_nonneg (by omega)]
        rw [wrapU (by omega) (by omega)]
        omega
      have hxt : x < top := by omega
      have hxb : x < 9223372036854775808 := top_lt (Nat.le_of_lt hxt)
      have hxr : rung x < top := by rw [rung_of hxb]; exact hxt
      have E : Tl Try.prog 16 [.one (.val (.float .f64 (IntKind.u64.wrap ((IntKind.u64.wrap ((lo : Int) + (hi : Int))).tdiv 2)).toNat))] (.tup [.agg [.val (.bool (Qn.qd (fq x)).1), .row (Qn.qd (fq x)).2.1, .row (Qn.qd (fq x)).2.2], .one (.val (.int .i64 0))]) := by
        rw [w2, Int.toNat_natCast]
        exact Exact_t (by omega) hxr
      obtain ⟨k, A⟩ := Cmp_a hxr ha hJ1 hJ
      by_cases hd : D x a ≤ 0
      · have c2 : decide ((D x a).sign ≤ 0) = true := decide_eq_true (by rcases Zn.sign_cases (D x a) with ⟨e, f⟩ | ⟨e, f⟩ | ⟨e, f⟩ <;> omega)
        repeat' (first
      | refine Run.mv ?_ | refine Run.asg ?_ | refine Run.iquo ?_ | refine Run.ld3 ?_ | refine Run.call1 ?_ | refine Run.call2 ?_ | refine Run.st ?_ | refine Run.icmp ?_ | refine Run.iark ?_ | refine Run.al ?_ | refine Run.ext ?_
      | refine Run.endF ?_ | refine Run.endT ?_ | exact FinK.ret1 | refine K.thenN ?_ | refine K.thenR ?_ | refine K.blkN ?_ | refine K.blkR ?_ | refine K.blkX ?_ | refine K.thenX ?_ | refine K.blkY ?_ | refine K.rndX ?_
      | refine AWp.seq ?_ | refine AWp.regF ?_ | refine AWp.regT ?_ | refine AWp.ret ?_ | refine AWp.condT ?_ | refine AWp.condF ?_ | refine AWp.skip ?_ | refine AWp.block ?_ | refine AWp.exit ?_)
        refine K.rndN (x, hi) ⟨by show x < hi; omega, h2, hd, h4⟩ (by show hi - x < hi - lo; omega) ⟨rfl, ⟨rfl, ?_, rfl, trivial⟩, ⟨rfl, trivial⟩, rfl⟩
        show Den.rs (.el (.one (.val (.int .u64 (IntKind.u64.wrap ((IntKind.u64.wrap ((lo : Int) + (hi : Int))).tdiv 2)))))) = _
        rw [w2]
      · have c2 : decide ((D x a).sign ≤ 0) = false := decide_eq_false (by rcases Zn.sign_cases (D x a) with ⟨e, f⟩ | ⟨e, f⟩ | ⟨e, f⟩ <;> omega)
        repeat' (first
      | refine Run.mv ?_ | refine Run.asg ?_ | refine Run.iquo ?_ | refine Run.ld3 ?_ | refine Run.call1 ?_ | refine Run.call2 ?_ | refine Run.st ?_ | refine Run.icmp ?_ | refine Run.iark ?_ | refine Run.al ?_ | refine Run.ext ?_
      | refine Run.endF ?_ | refine Run.endT ?_ | exact FinK.ret1 | refine K.thenN ?_ | refine K.thenR ?_ | refine K.blkN ?_ | refine K.blkR ?_ | refine K.blkX ?_ | refine K.thenX ?_ | refine K.blkY ?_ | refine K.rndX ?_
      | refine AWp.seq ?_ | refine AWp.regF ?_ | refine AWp.regT ?_ | refine AWp.ret ?_ | refine AWp.condT ?_ | refine AWp.condF ?_ | refine AWp.skip ?_ | refine AWp.block ?_ | refine AWp.exit ?_)
        refine K.rndN (lo, x) ⟨by show lo < x; omega, by show x ≤ top; omega, h3, .inr (by show 0 < D x a; omega)⟩ (by show x - lo < hi - lo; omega) ⟨rfl, ⟨rfl, rfl, ?_, trivial⟩, ⟨rfl, trivial⟩, rfl⟩
        show Den.rs (.el (.one (.val (.int .u64 (IntKind.u64.wrap ((IntKind.u64.wrap ((lo : Int) + (hi : Int))).tdiv 2)))))) = _
        rw [w2]
    · have c1 : decide (IntKind.u64.wrap ((lo : Int) + 1) < (hi : Int)) = false := decide_eq_false (by rw [w1]; omega)
      have e : hi = lo + 1 := by omega
      have hlo : r = lo := hr.uniq ⟨by omega, h3, by rw [← e]; exact h4⟩
      subst hlo
      repeat' (first
      | refine Run.mv ?_ | refine Run.asg ?_ | refine Run.iquo ?_ | refine Run.ld3 ?_ | refine Run.call1 ?_ | refine Run.call2 ?_ | refine Run.st ?_ | refine Run.icmp ?_ | refine Run.iark ?_ | refine Run.al ?_ | refine Run.ext ?_
      | refine Run.endF ?_ | refine Run.endT ?_ | exact FinK.ret1 | refine K.thenN ?_ | refine K.thenR ?_ | refine K.blkN ?_ | refine K.blkR ?_ | refine K.blkX ?_ | refine K.thenX ?_ | refine K.blkY ?_ | refine K.rndX ?_
      | refine AWp.seq ?_ | refine AWp.regF ?_ | refine AWp.regT ?_ | refine AWp.ret ?_ | refine AWp.condT ?_ | refine AWp.condF ?_ | refine AWp.skip ?_ | refine AWp.block ?_ | refine AWp.exit ?_)
end
def rat_Sign.f (k : Nat) (a0_0 : Bool) (l0_1 : List Int) (l0_2 : List Int) : Option (Int) := (whole_Sign.f k a0_0 l0_1).bind fun t237 => (some t237)
theorem rat_Sign.ev {m : Bool} {l1 l2 : List Int} {r : Rat} {K : Nat} (h : Qn.Is m l1 l2 r K) (hK : K < 400000) : Ev (fun k => rat_Sign.f k m l1 l2) r.num.sign := by
 have S := whole_Sign.ev h.num (by omega)
 have e := Qn.sign_num (Zn.zv m (Num.nv l1)) (Qn.dn (Num.nv l2)) (Qn.dn_ne _)
 rw [h.val] at e
 rw [e]
 unfold rat_Sign.f
 exact Ev.bind S (Ev.now _)
set_option synthInstance.checkSynthOrder false in
open Lin in
set_option maxHeartbeats 4000000 in
instance rat_Sign.t {k : Nat} {a0_0 : Bool} {l0_1 : List Int} {l0_2 : List Int} {r : Int} [h : Ans (rat_Sign.f k a0_0 l0_1 l0_2) r] : Tl Try.prog 17 [.agg [.val (.bool a0_0), .row l0_1, .row l0_2]] (.el (.one (.val (.int .i64 r)))) := by
 have h := h.out
 unfold rat_Sign.f at h
 repeat' (first | (replace h := Lin.bndK h) | (replace h := Lin.bnd h; obtain ⟨_, _, h⟩ := h) | split at h | cases h)
 all_goals exact ⟨Tells.go Try.func17 Try.ntmps17⟩
def whole_Neg.f (k : Nat) (a0_0 : Bool) (l0_1 : List Int) : Option (Bool × List Int) := (whole_Make.f k (!a0_0) l0_1).bind fun bt294 => (some (bt294.1, bt294.2))
theorem whole_Neg.ev {m : Bool} {l : List Int} {z : Int} {K : Nat} (h : Zn.Is m l z K) (hK : K < 1000000) : Ev (fun k => whole_Neg.f k m l) (Zn.zd (-z)) := by
 unfold whole_Neg.f
 exact Ev.bind (whole_Make.ev h.neg hK) (Ev.now _)
set_option synthInstance.checkSynthOrder false in
open Lin in
set_option maxHeartbeats 4000000 in
instance whole_Neg.t {k : Nat} {a0_0 : Bool} {l0_1 : List Int} {r : Bool × List Int} [h : Ans (whole_Neg.f k a0_0 l0_1) r] : Tl Try.prog 64 [.agg [.val (.bool a0_0), .row l0_1]] (.el (.agg [.val (.bool r.1), .row r.2])) := by
 have h := h.out
 unfold whole_Neg.f at h
 repeat' (first | (replace h := Lin.bndK h) | (replace h := Lin.bnd h; obtain ⟨_, _, h⟩ := h) | split at h | cases h)
 all_goals exact ⟨Tells.go Try.func64 Try.ntmps64⟩
def rat_Neg.f (k : Nat) (a0_0 : Bool) (l0_1 : List Int) (l0_2 : List Int) : Option (Bool × List Int × List Int) := (whole_Neg.f k a0_0 l0_1).bind fun bt300 => ((rat_Make.f k bt300.1 bt300.2 l0_2).bind fun bt304 => (some (bt304.1, bt304.2.1, bt304.2.2)))
theorem rat_Neg.ev {m : Bool} {l1 l2 : List Int} {r : Rat} {K : Nat} (h : Qn.Is m l1 l2 r K) (hK1 : 1 ≤ K) (hK : K < 400000) : Ev (fun k => rat_Neg.f k m l1 l2) (Qn.qd (-r)) := by
 have M := rat_Make.ev (Zn.Is.zd (Zn.abs_neg h.num.lt)) h.ws h.len hK1 hK
 rw [← Rat.neg_mkRat, h.val] at M
 unfold rat_Neg.f
 exact Ev.bind (whole_Neg.ev h.num (by omega)) (Ev.bind M (Ev.now _))
set_option synthInstance.checkSynthOrder false in
open Lin in
set_option maxHeartbeats 4000000 in
instance rat_Neg.t {k : Nat} {a0_0 : Bool} {l0_1 : List Int} {l0_2 : List Int} {r : Bool × List Int × List Int} [h : Ans (rat_Neg.f k a0_0 l0_1 l0_2) r] : Tl Try.prog 33 [.agg [.val (.bool a0_0), .row l0_1, .row l0_2]] (.el (.agg [.val (.bool r.1), .row r.2.1, .row r.2.2])) := by
 have h := h.out
 unfold rat_Neg.f at h
 repeat' (first | (replace h := Lin.bndK h) | (replace h := Lin.bnd h; obtain ⟨_, _, h⟩ := h) | split at h | cases h)
 all_goals exact ⟨Tells.go Try.func33 Try.ntmps33⟩
section
open Lin Flo Ieee
/-- The one above, or the same. -/
def Hi (a : Rat) (r : Nat) : Nat := if (D r a).sign == 0 then r else r + 1
theorem Btw_t {m : Bool} {l1 l2 : List Int} {a : Rat} {J r : Nat} (ha : Qn.Is m l1 l2 a J) (hJ1 : 1 ≤ J) (hJ : J ≤ 10000) (h0 : 0 ≤ a.num) (hr : Low a r) : Tl Try.prog 23 [.agg [.val (.bool m), .row l1, .row l2]] (.tup [.one (.val (.float .f64 r)), .one (.val (.float .f64 (Hi a r)))]) := by
  obtain ⟨k, hk⟩ := (rat_Sign.ev ha (by omega)).rounds
  have A : Ans (rat_Sign.f k m l1 l2) a.num.sign := ⟨hk⟩
  have c1 : decide (a.num.sign < 0) = false := decide_eq_false (by rw [Zn.sign_lt]; omega)
  have dn := down_t ha hJ1 hJ h0 hr
  have hb := top_lt (Nat.le_of_lt hr.lt)
  have sm := Same_t (b := r) (by omega) (by rw [rung_of hb]; exact hr.lt) ha hJ1 hJ
  unfold Hi
  cases hs : ((D r a).sign == 0) with
  | true =>
    rw [hs] at sm
    exact ⟨Tells.goF Try.func23 Try.ntmps23⟩
  | false =>
    rw [hs] at sm
    have e : (IntKind.u64.wrap ((r : Int) + 1)).toNat = r + 1 := by rw [wrapU (by omega) (by omega)]; omega
    refine ⟨Tells.conv (Tells.goF Try.func23 Try.ntmps23) ?_⟩
    simp [rsOf, e]
theorem sub0 {x : Nat} (h : rung x < top) : double.sub 0 x = some (if rung x = 0 then 0 else double.word (!neg x) (rung x)) := by
  obtain ⟨n, l, h1, h2⟩ := read_num h
  have h0 : double.read 0 = .number false 0 (-1074) := by rfl
  unfold Format.sub
  rw [h0, h1]
  simp only [Datum.opposite, Datum.sum, Option.map_some, Format.write]
  have e1 : min (-1074 : Int) (-1074 + (l : Int)) = -1074 := by omega
  have e2 : (-1074 + (l : Int) - -1074).toNat = l := by omega
  rw [e1, e2, signed_eq, signed_eq, h2]
  have e3 : (if false = true then -((0 * 2 ^ ((-1074 : Int) - -1074).toNat : Nat) : Int) else ((0 * 2 ^ ((-1074 : Int) - -1074).toNat : Nat) : Int)) = 0 := by simp
  rw [e3, Int.zero_add]
  have hn : ((if (!neg x) = true then -((vn (rung x) : Nat) : Int) else ((vn (rung x) : Nat) : Int))).natAbs = vn (rung x) := by cases neg x <;> simp
  rw [hn]
  by_cases h3 : rung x = 0
  · rw [if_pos h3, h3, vn_zero]
    cases neg x <;> rfl
  · rw [if_neg h3]
    have hv : 0 < vn (rung x) := by have := vn_lt (Nat.pos_of_ne_zero h3); rwa [vn_zero] at this
    have e4 : (if (if (!neg x) = true then -((vn (rung x) : Nat) : Int) else ((vn (rung x) : Nat) : Int)) = 0 then (false && !neg x) else decide ((if (!neg x) = true then -((vn (rung x) : Nat) : Int) else ((vn (rung x) : Nat) : Int)) < 0)) = !neg x := by
      cases neg x
      · simp only [Bool.not_false, if_true]
        rw [if_neg (by omega), decide_eq_true (by omega)]
      · simp only [Bool.not_true, Bool.false_eq_true, if_false]
        rw [if_neg (by omega), decide_eq_false (by omega)]
    rw [e4, nearest_vn (u := 0) (v := 0) (r := rung x) (Nat.le_of_lt h) rfl (by omega)]
theorem word_of (r : Nat) : double.word true r = 9223372036854775808 + r := rfl
theorem xor_of {r : Nat} (h : r < 9223372036854775808) : r ^^^ 9223372036854775808 = 9223372036854775808 + r := by
  have h1 := Nat.two_pow_add_eq_or_of_lt (i := 63) (b := r) h 1
  rw [Nat.mul_one] at h1
  have h2 : (2 : Nat) ^ 63 = 9223372036854775808 := by decide
  rw [h2] at h1
  rw [h1, Nat.or_comm]
  refine Nat.eq_of_testBit_eq fun i => ?_
  rw [Nat.testBit_xor, Nat.testBit_or, ← h2]
  by_cases hi : i = 63
  · subst hi
    rw [Nat.testBit_lt_two_pow (show r < 2 ^ 63 from h)]
    rfl
  · rw [Nat.testBit_two_pow_of_ne (by omega)]
    simp
theorem Btn_t {m : Bool} {l1 l2 : List Int} {a : Rat} {J r : Nat} (ha : Qn.Is m l1 l2 a J) (hJ1 : 1 ≤ J) (hJ : J ≤ 10000) (h0 : a.num < 0) (hr : Low (-a) r) : Tl Try.prog 23 [.agg [.val (.bool m), .row l1, .row l2]] (.tup [.one (.val (.float .f64 (9223372036854775808 + Hi (-a) r))), .one (.val (.float .f64 (if r = 0 then 0 else 9223372036854775808 + r)))]) := by
  obtain ⟨k, hk⟩ := (rat_Sign.ev ha (by omega)).rounds
  have A : Ans (rat_Sign.f k m l1 l2) a.num.sign := ⟨hk⟩
  have c1 : decide (a.num.sign < 0) = true := decide_eq_true (by rw [Zn.sign_lt]; omega)
  obtain ⟨k2, hk2⟩ := (rat_Neg.ev ha hJ1 (by omega)).rounds
  have A2 : Ans (rat_Neg.f k2 m l1 l2) (Qn.qd (-a)) := ⟨hk2⟩
  have B := Btw_t (Qn.Is.qd (ha.sm hJ1).neg) hJ1 hJ (by rw [Rat.neg_num]; omega) hr
  have hb := top_lt (Nat.le_of_lt hr.lt)
  have hs : double.sub 0 r = some (if r = 0 then 0 else 9223372036854775808 + r) := by
    have := sub0 (x := r) (by rw [rung_of hb]; exact hr.lt)
    rw [rung_of hb, neg_of hb] at this
    exact this
  have hx : Hi (-a) r < 9223372036854775808 := by have := hr.lt; unfold top at this; unfold Hi; split <;> omega
  rw [← xor_of hx]
  exact ⟨Tells.goF Try.func23 Try.ntmps23⟩
end
def whole_Of.f (k : Nat) (a0 : Int) : Option (Bool × List Int) := (nat_Of.f k (IntKind.u64.wrap (mx a0 (wrap64 (-a0))))).bind fun t312 => ((whole_Make.f k (decide (a0 < 0)) t312).bind fun bt315 => (some (bt315.1, bt315.2)))
theorem whole_Of.ev (n : Int) (h0 : -9223372036854775808 ≤ n) (h1 : n < 9223372036854775808) : Ev (fun k => whole_Of.f k n) (Zn.zd n) := by
 have e : IntKind.u64.wrap (mx n (wrap64 (-n))) = (n.natAbs : Int) := by
  have u : ∀ x : Int, IntKind.u64.wrap x = x % 18446744073709551616 := fun x => by simp [IntKind.wrap, IntKind.bits, IntKind.signed]
  rw [u]
  by_cases hm : n = -9223372036854775808
  ·subst hm
   have w : wrap64 (- (-9223372036854775808 : Int)) = -9223372036854775808 := by unfold wrap64; omega
   rw [w]
   unfold mx
   split <;> omega
  ·rw [Dec.w64 (by omega) (by omega)]
   unfold mx
   split <;> omega
 have O := nat_Of.ev n.natAbs (by omega)
 unfold whole_Of.f
 rw [e]
 have M := whole_Make.ev (Zn.Is.nd (K := 2) (n := n.natAbs) (m := decide (n < 0)) (by omega)) (by omega)
 rw [Zn.zv_self] at M
 exact Ev.bind O (Ev.bind M (Ev.now _))
set_option synthInstance.checkSynthOrder false in
open Lin in
set_option maxHeartbeats 4000000 in
instance whole_Of.t {k : Nat} {a0 : Int} {r : Bool × List Int} [h : Ans (whole_Of.f k a0) r] : Tl Try.prog 46 [.one (.val (.int .i64 a0))] (.el (.agg [.val (.bool r.1), .row r.2])) := by
 have h := h.out
 unfold whole_Of.f at h
 repeat' (first | (replace h := Lin.bndK h) | (replace h := Lin.bnd h; obtain ⟨_, _, h⟩ := h) | split at h | cases h)
 all_goals exact ⟨Tells.go Try.func46 Try.ntmps46⟩
def rat_Int.f (k : Nat) (a0 : Int) : Option (Bool × List Int × List Int) := (whole_Of.f k a0).bind fun bt320 => ((nat_Of.f k 1).bind fun t324 => ((rat_Make.f k bt320.1 bt320.2 t324).bind fun bt327 => (some (bt327.1, bt327.2.1, bt327.2.2))))
theorem rat_Int.ev (n : Int) (h0 : -9223372036854775808 ≤ n) (h1 : n < 9223372036854775808) : Ev (fun k => rat_Int.f k n) (Qn.qd (n : Rat)) := by
 have M := rat_Make.ev (Zn.Is.zd (z := n) (K := 2) (by omega)) (Num.Ws_nd 1) (Num.nd_length_le (n := 1) (k := 2) (by decide)) (by omega) (by omega)
 rw [Num.nv_nd, Qn.dn_self (by decide), Qn.mk_one] at M
 unfold rat_Int.f
 exact Ev.bind (whole_Of.ev n h0 h1) (Ev.bind (nat_Of.ev 1 (by omega)) (Ev.bind M (Ev.now _)))
set_option synthInstance.checkSynthOrder false in
open Lin in
set_option maxHeartbeats 4000000 in
instance rat_Int.t {k : Nat} {a0 : Int} {r : Bool × List Int × List Int} [h : Ans (rat_Int.f k a0) r] : Tl Try.prog 19 [.one (.val (.int .i64 a0))] (.el (.agg [.val (.bool r.1), .row r.2.1, .row r.2.2])) := by
 have h := h.out
 unfold rat_Int.f at h
 repeat' (first | (replace h := Lin.bndK h) | (replace h := Lin.bnd h; obtain ⟨_, _, h⟩ := h) | split at h | cases h)
 all_goals exact ⟨Tells.go Try.func19 Try.ntmps19⟩
def rat_Mul.f (k : Nat) (a0_0 : Bool) (l0_1 : List Int) (l0_2 : List Int) (a1_0 : Bool) (l1_1 : List Int) (l1_2 : List Int) : Option (Bool × List Int × List Int) := (whole_Mul.f k a0_0 l0_1 a1_0 l1_1).bind fun bt337 => ((rat_den.f k a0_0 l0_1 l0_2).bind fun t341 => ((rat_den.f k a1_0 l1_1 l1_2).bind fun t344 => ((nat_Mul.f k t341 t344).bind fun t347 => ((rat_Make.f k bt337.1 bt337.2 t347).bind fun bt350 => (some (bt350.1, bt350.2.1, bt350.2.2))))))
theorem rat_Mul.ev {m m' : Bool} {l1 l2 k1 k2 : List Int} {a b : Rat} {K J : Nat} (ha : Qn.Is m l1 l2 a K) (hb : Qn.Is m' k1 k2 b J) (hK1 : 1 ≤ K) (hJ1 : 1 ≤ J) (hK : K + J < 400000) : Ev (fun k => rat_Mul.f k m l1 l2 m' k1 k2) (Qn.qd (a * b)) := by
 have da := Qn.dn_lt ha.ws ha.len hK1
 have db := Qn.dn_lt hb.ws hb.len hJ1
 have la := ha.len
 have lb := hb.len
 have La := Qn.len_dl la hK1
 have Lb := Qn.len_dl lb hJ1
 have P := nat_Mul.ev (Num.okw_of (l := Qn.dl l2) (by omega) (Qn.ws_dl ha.ws)) (Num.okw_of (l := Qn.dl k2) (by omega) (Qn.ws_dl hb.ws))
 rw [Qn.nv_dl, Qn.nv_dl] at P
 have M := rat_Make.ev (Zn.Is.zd (Zn.abs_mul ha.num.lt hb.num.lt)) (Num.Ws_nd (Qn.dn (Num.nv l2) * Qn.dn (Num.nv k2))) (Num.nd_length_le (Num.mul_lt da db)) (by omega) hK
 rw [Num.nv_nd, Qn.dn_self (Nat.mul_ne_zero (Qn.dn_ne _) (Qn.dn_ne _)), ← Rat.mkRat_mul_mkRat, ha.val, hb.val] at M
 unfold rat_Mul.f
 exact Ev.bind (whole_Mul.ev ha.num hb.num (by omega)) (Ev.bind (rat_den.ev ha.ws (by omega)) (Ev.bind (rat_den.ev hb.ws (by omega)) (Ev.bind P (Ev.bind M (Ev.now _)))))
set_option synthInstance.checkSynthOrder false in
open Lin in
set_option maxHeartbeats 4000000 in
instance rat_Mul.t {k : Nat} {a0_0 : Bool} {l0_1 : List Int} {l0_2 : List Int} {a1_0 : Bool} {l1_1 : List Int} {l1_2 : List Int} {r : Bool × List Int × List Int} [h : Ans (rat_Mul.f k a0_0 l0_1 l0_2 a1_0 l1_1 l1_2) r] : Tl Try.prog 92 [.agg [.val (.bool a0_0), .row l0_1, .row l0_2], .agg [.val (.bool a1_0), .row l1_1, .row l1_2]] (.el (.agg [.val (.bool r.1), .row r.2.1, .row r.2.2])) := by
 have h := h.out
 unfold rat_Mul.f at h
 repeat' (first | (replace h := Lin.bndK h) | (replace h := Lin.bnd h; obtain ⟨_, _, h⟩ := h) | split at h | cases h)
 all_goals exact ⟨Tells.go Try.func92 Try.ntmps92⟩
def rat_Div.f (k : Nat) (a0_0 : Bool) (l0_1 : List Int) (l0_2 : List Int) (a1_0 : Bool) (l1_1 : List Int) (l1_2 : List Int) : Option (Bool × List Int × List Int × Int) := (rat_Sign.f k a1_0 l1_1 l1_2).bind fun t360 => (if t360 = 0 then (some (false, ([] : List Int), ([] : List Int), 5)) else ((rat_Sign.f k a1_0 l1_1 l1_2).bind fun t361 => ((rat_den.f k a1_0 l1_1 l1_2).bind fun t362 => ((whole_Make.f k (decide (t361 < 0)) t362).bind fun bt365 => ((rat_Mul.f k a0_0 l0_1 l0_2 bt365.1 bt365.2 l1_1).bind fun bt370 => (some (bt370.1, bt370.2.1, bt370.2.2, 0)))))))
theorem rat_Div.sz {b : Rat} (h : b.num.sign = 0) : b = 0 := by
 have h1 : b.num = 0 := by
  rcases Zn.sign_cases b.num with ⟨_, e⟩ | ⟨e0, _⟩ | ⟨_, e⟩
  ·rw [e] at h; exact absurd h (by decide)
  ·exact e0
  ·rw [e] at h; exact absurd h (by decide)
 exact Rat.num_eq_zero.1 h1
theorem rat_Div.ev0 {m m' : Bool} {l1 l2 k1 k2 : List Int} {b : Rat} {J : Nat} (hb : Qn.Is m' k1 k2 b J) (hK : J < 300000) (h0 : b = 0) : Ev (fun k => rat_Div.f k m l1 l2 m' k1 k2) (false, [], [], 5) := by
 have S := rat_Sign.ev hb (by omega)
 unfold rat_Div.f
 refine Ev.bind S (Dec.yes ?_ (Ev.now _))
 rw [h0]
 rfl
theorem rat_Div.ev {m m' : Bool} {l1 l2 k1 k2 : List Int} {a b : Rat} {K J : Nat} (ha : Qn.Is m l1 l2 a K) (hb : Qn.Is m' k1 k2 b J) (hK1 : 1 ≤ K) (hJ1 : 1 ≤ J) (hK : K + J < 300000) (h0 : b ≠ 0) :
  Ev (fun k => rat_Div.f k m l1 l2 m' k1 k2) ((Qn.qd (a / b)).1, (Qn.qd (a / b)).2.1, (Qn.qd (a / b)).2.2, 0) := by
 have db := Qn.dn_lt hb.ws hb.len hJ1
 have lb := hb.len
 have S := rat_Sign.ev hb (by omega)
 have sg : b.num.sign = (Zn.zv m' (Num.nv k1)).sign := by
  have := Qn.sign_num (Zn.zv m' (Num.nv k1)) (Qn.dn (Num.nv k2)) (Qn.dn_ne _)
  rwa [hb.val] at this
 obtain ⟨s, hs⟩ : ∃ s, s = decide (b.num.sign < 0) := ⟨_, rfl⟩
 have I : Zn.Is s (Qn.dl k2) (Zn.zv s (Qn.dn (Num.nv k2))) J := ⟨Qn.ws_dl hb.ws, Qn.len_dl lb hJ1, by rw [Qn.nv_dl]⟩
 have p0 : Num.nv k1 ≠ 0 := by
  intro e
  apply h0
  apply rat_Div.sz
  rw [sg, e, Zn.zv_zero]
  rfl
 have T : Qn.Is (Zn.zd (Zn.zv s (Qn.dn (Num.nv k2)))).1 (Zn.zd (Zn.zv s (Qn.dn (Num.nv k2)))).2 k1 b⁻¹ J := by
  have Z := Zn.Is.zd I.lt
  refine ⟨?_, hb.num.ws, hb.num.len, ?_⟩
  ·rw [Z.val]
   exact Z
  ·rw [Z.val, Qn.dn_self p0, ← hb.val, Qn.inv_mk, Zn.natAbs_zv, hs, sg]
   congr 2
   exact decide_eq_decide.2 (Zn.sign_lt _)
 have M := rat_Mul.ev ha T hK1 hJ1 (by omega)
 rw [← Rat.div_def] at M
 unfold rat_Div.f
 refine Ev.bind S (Dec.no (fun e => h0 (rat_Div.sz e)) (Ev.bind S (Ev.bind (rat_den.ev hb.ws (by omega)) ?_)))
 rw [← hs]
 exact Ev.bind (whole_Make.ev I (by omega)) (Ev.bind M (Ev.now _))
set_option synthInstance.checkSynthOrder false in
open Lin in
set_option maxHeartbeats 4000000 in
instance rat_Div.t {k : Nat} {a0_0 : Bool} {l0_1 : List Int} {l0_2 : List Int} {a1_0 : Bool} {l1_1 : List Int} {l1_2 : List Int} {r : Bool × List Int × List Int × Int} [h : Ans (rat_Div.f k a0_0 l0_1 l0_2 a1_0 l1_1 l1_2) r] : Tl Try.prog 65 [.agg [.val (.bool a0_0), .row l0_1, .row l0_2], .agg [.val (.bool a1_0), .row l1_1, .row l1_2]] (.tup [.agg [.val (.bool r.1), .row r.2.1, .row r.2.2.1], .one (.val (.int .i64 r.2.2.2))]) := by
 have h := h.out
 unfold rat_Div.f at h
 repeat' (first | (replace h := Lin.bndK h) | (replace h := Lin.bnd h; obtain ⟨_, _, h⟩ := h) | split at h | cases h)
 all_goals exact ⟨Tells.go Try.func65 Try.ntmps65⟩
def rat_Of.f (k : Nat) (a0 : Int) (a1 : Int) : Option (Bool × List Int × List Int × Int) := (rat_Int.f k a0).bind fun bt378 => ((rat_Int.f k a1).bind fun bt385 => ((rat_Div.f k bt378.1 bt378.2.1 bt378.2.2 bt385.1 bt385.2.1 bt385.2.2).bind fun bt392 => (some (bt392.1, bt392.2.1, bt392.2.2.1, bt392.2.2.2))))
theorem rat_Of.sm {n : Int} (h0 : -9223372036854775808 ≤ n) (h1 : n < 9223372036854775808) : Qn.Sm (n : Rat) 2 := Qn.Sm.int (by omega) (by omega)
theorem rat_Of.ev0 {n : Int} (h0 : -9223372036854775808 ≤ n) (h1 : n < 9223372036854775808) : Ev (fun k => rat_Of.f k n 0) (false, [], [], 5) := by
 unfold rat_Of.f
 exact Ev.bind (rat_Int.ev n h0 h1) (Ev.bind (rat_Int.ev 0 (by omega) (by omega)) (Ev.bind (rat_Div.ev0 (Qn.Is.qd (rat_Of.sm (n := 0) (by omega) (by omega))) (by omega) rfl) (Ev.now _)))
theorem rat_Of.ev {n d : Int} (h0 : -9223372036854775808 ≤ n) (h1 : n < 9223372036854775808) (k0 : -9223372036854775808 ≤ d) (k1 : d < 9223372036854775808) (hd : d ≠ 0) :
  Ev (fun k => rat_Of.f k n d) ((Qn.qd ((n : Rat) / (d : Rat))).1, (Qn.qd ((n : Rat) / (d : Rat))).2.1, (Qn.qd ((n : Rat) / (d : Rat))).2.2, 0) := by
 unfold rat_Of.f
 exact Ev.bind (rat_Int.ev n h0 h1) (Ev.bind (rat_Int.ev d k0 k1) (Ev.bind (rat_Div.ev (Qn.Is.qd (rat_Of.sm h0 h1)) (Qn.Is.qd (rat_Of.sm k0 k1)) (by omega) (by omega) (by omega) (fun e => hd (Rat.intCast_eq_zero_iff.1 e))) (Ev.now _)))
set_option synthInstance.checkSynthOrder false in
open Lin in
set_option maxHeartbeats 4000000 in
instance rat_Of.t {k : Nat} {a0 : Int} {a1 : Int} {r : Bool × List Int × List Int × Int} [h : Ans (rat_Of.f k a0 a1) r] : Tl Try.prog 36 [.one (.val (.int .i64 a0)), .one (.val (.int .i64 a1))] (.tup [.agg [.val (.bool r.1), .row r.2.1, .row r.2.2.1], .one (.val (.int .i64 r.2.2.2))]) := by
 have h := h.out
 unfold rat_Of.f at h
 repeat' (first | (replace h := Lin.bndK h) | (replace h := Lin.bnd h; obtain ⟨_, _, h⟩ := h) | split at h | cases h)
 all_goals exact ⟨Tells.go Try.func36 Try.ntmps36⟩
def rat_Whole.f (k : Nat) (a0_0 : Bool) (l0_1 : List Int) (l0_2 : List Int) : Option (Bool) := (rat_Make.f k a0_0 l0_1 l0_2).bind fun bt401 => ((nat_Of.f k 1).bind fun t408 => ((nat_Compare.f k bt401.2.2 t408).bind fun t411 => (some (t411 == 0))))
theorem rat_Whole.ev {m : Bool} {l1 l2 : List Int} {r : Rat} {K : Nat} (h : Qn.Is m l1 l2 r K) (hK1 : 1 ≤ K) (hK : K < 300000) : Ev (fun k => rat_Whole.f k m l1 l2) (decide (r.den = 1)) := by
 have M := rat_Make.ev h.num h.ws h.len hK1 (by omega)
 rw [h.val] at M
 have od := Num.ok_nd (h.sm hK1).den (by omega)
 have o1 := Num.ok_nd (n := 1) (k := 1) (by decide) (by omega)
 have C : ∀ k, nat_Compare.f k (Num.nd r.den) (Num.nd 1) = some (Num.cmp r.den 1) := fun k => by unfold nat_Compare.f; rw [if_pos od, if_pos o1, Num.nv_nd, Num.nv_nd]
 unfold rat_Whole.f
 refine Ev.bind M (Ev.bind (nat_Of.ev 1 (by omega)) (Dec.val C ?_))
 have e : (Num.cmp r.den 1 == 0) = decide (r.den = 1) := by
  by_cases hd : r.den = 1
  ·rw [decide_eq_true hd, Num.cmp_eq hd]; rfl
  ·rw [decide_eq_false hd]
   exact beq_eq_false_iff_ne.2 (fun e => hd (Num.cmp_zero.1 e))
 rw [e]
 exact Ev.now _
set_option synthInstance.checkSynthOrder false in
open Lin in
set_option maxHeartbeats 4000000 in
instance rat_Whole.t {k : Nat} {a0_0 : Bool} {l0_1 : List Int} {l0_2 : List Int} {r : Bool} [h : Ans (rat_Whole.f k a0_0 l0_1 l0_2) r] : Tl Try.prog 66 [.agg [.val (.bool a0_0), .row l0_1, .row l0_2]] (.el (.one (.val (.bool r)))) := by
 have h := h.out
 unfold rat_Whole.f at h
 repeat' (first | (replace h := Lin.bndK h) | (replace h := Lin.bnd h; obtain ⟨_, _, h⟩ := h) | split at h | cases h)
 all_goals exact ⟨Tells.go Try.func66 Try.ntmps66⟩
def slices_Reverse_byte_byte.l0 : Nat → List Int → Int → Int → Option (List Int)
 | 0, _, _, _ => none
 | k + 1, x0, x2, x3 => if x2 < x3 then (if 0 ≤ x3 then (if x3 < (x0.length : Int) then (if 0 ≤ x2 then (if x2 < (x0.length : Int) then (slices_Reverse_byte_byte.l0 k ((x0.set (x2 : Int).toNat (rd x0 x3)).set (x3 : Int).toNat (rd x0 x2)) (wrap64 (x2 + 1)) (wrap64 (x3 - 1))) else (none)) else (none)) else (none)) else (none)) else (some x0)
def slices_Reverse_byte_byte.f (k : Nat) (l0 : List Int) : Option (List Int) := slices_Reverse_byte_byte.l0 k l0 0 (wrap64 ((l0.length : Int) - 1))
def slices_Reverse_byte_byte.T3 : Bool × List (List Nat × List Nat) := (true, [([], []), ([], []), ([], []), ([], []), ([], []), ([], []), ([4, 5], [4, 5]), ([6], [6]), ([], []), ([], []), ([8, 9], [8, 9]), ([10], [10]), ([0, 1, 0, 1, 4, 5, 6, 7, 11], [0, 1]), ([12, 7, 0, 1, 4, 5, 6, 7, 11], [7, 12]), ([2, 3, 0, 1, 2, 3, 4, 5, 6, 7, 8, 9, 10, 11, 12, 13], [2, 3]), ([14, 11, 13, 0, 1, 2, 3, 4, 5, 6, 7, 8, 9, 10, 11, 12, 13], [11, 14])])
def slices_Reverse_byte_byte.B3 : List Nat := [0, 0, 0, 0, 0, 0, 48, 112, 0, 0, 768, 1792, 4083, 8179, 16383, 32767]
theorem slices_Reverse_byte_byte.tab3 : rtab .any (opsOf Try.f94 3) = slices_Reverse_byte_byte.T3 := by kernel_rfl
theorem slices_Reverse_byte_byte.bits3 : waitsOk slices_Reverse_byte_byte.T3.2 slices_Reverse_byte_byte.B3 = true := by kernel_rfl
set_option maxHeartbeats 8000000 in
set_option maxRecDepth 100000 in
theorem slices_Reverse_byte_byte.calls (k : Nat) (P0_ : Nat → Prop) (u9000_ : Value) (l0 : List Int) (r : List Int) (w0 w : World) (hB : Below w0.heap.size w0 w) (ho0 : Kd.R (Kd.int .u8) 5 w w0.heap.size P0_ u9000_ l0) (h : slices_Reverse_byte_byte.f k l0 = some r) :
  Calls Try.prog 94 #[u9000_] w fun e w' => e = .returned (.tuple #[]) ∧ Kd.R (Kd.int .u8) 5 w' w0.heap.size (fun k_ => (P0_ k_ ∨ w.heap.size ≤ k_)) u9000_ r ∧ Below w0.heap.size w0 w' ∧ Kept w w' (fun k_ => P0_ k_) := by
 have HO0 := Aside0.mk (show Kd.R (Kd.int .u8) 5 w w0.heap.size (fun k_ => (P0_ k_ ∨ w.heap.size ≤ k_)) u9000_ l0 from Kd.R_mono ho0 (fun k_ hk => (.inl hk)))
 have HK := Aside0.mk (Kept.refl w (fun k_ => P0_ k_))
 have HW0 := Aside0.mk hB.size
 have HB := Aside0.mk hB
 clear hB
 have H : (slices_Reverse_byte_byte.l0 k l0 0 (wrap64 ((l0.length : Int) - 1))) = some r := h
 clear h
 have H' := Aside0.mk H
 clear H
 obtain ⟨Ao2, co2, eo2⟩ := Kd.R_slice HO0.out
 subst eo2
 go_enter Try.func94, Try.ntmps94
 go_wp2
 go_loopg [2, 3] k (fun kq v2 v3 w' => ∃ (x0_1 : List Int) (x2_1 : Int) (x3_1 : Int), v2 = .int .i64 x2_1 ∧ v3 = .int .i64 x3_1 ∧ Aside0 (slices_Reverse_byte_byte.l0 kq x0_1 x2_1 x3_1 = some r) ∧ Aside0 (kq ≤ k) ∧ Aside0 (Kd.R (Kd.int .u8) 5 w' w0.heap.size (fun k_ => (P0_ k_ ∨ w.heap.size ≤ k_)) (.slice Ao2 l0.length co2) x0_1) ∧ Aside0 (Kept w w' (fun k_ => P0_ k_)) ∧ Aside0 (Below w0.heap.size w0 w'))
 case atStart => exact ⟨(l0), (0), (wrap64 ((l0.length : Int) - 1)), (by first | rfl | (simp; done) | (simp [*]; done)), (by first | rfl | (simp; done) | (simp [*]; done)), H', ⟨Nat.le_refl _⟩, ⟨by (with_reducible repeat (first | apply Kd.R_alloc | apply Kd.R_drewN | apply Kd.R_drew)); exact HO0.out⟩, ⟨by repeat (first | (with_reducible first | exact HK.out | apply Kept.alloc | apply Kept.drewN | apply Kept.drew) | exact HK.out)⟩, ⟨by repeat (first | (with_reducible first | exact HB.out | apply below_alloc | apply pw_below_drewN | apply below_drew1) | exact HB.out)⟩⟩
 case round =>
  clear H'
  try clear p2
  obtain ⟨x0_1, x2_1, x3_1, rfl, rfl, HA, HK1, HO_0, HK, HB⟩ := hrel
  have hl0_1 := (Kd.R_reads' HO_0.out).1
  rw [hl0_1] at HO_0
  (try simp only [hl0_1])
  cases gk with
  | zero => exact absurd HA.out (by simp [slices_Reverse_byte_byte.l0])
  | succ k1 =>
   have H := HA.out
   clear HA
   simp only [slices_Reverse_byte_byte.l0] at H
   by_cases c3 : x2_1 < x3_1
   ·rw [if_pos c3] at H
    have c3b0 : decide (x2_1 < x3_1) = true := decide_eq_true c3
    clear c3
    by_cases c4 : 0 ≤ x3_1
    ·rw [if_pos c4] at H
     have c4b0 : decide (0 ≤ x3_1) = true := decide_eq_true c4
     clear c4
     by_cases c5 : x3_1 < (x0_1.length : Int)
     ·rw [if_pos c5] at H
      have c5b0 : decide (x3_1 < (x0_1.length : Int)) = true := decide_eq_true c5
      clear c5
      by_cases c6 : 0 ≤ x2_1
      ·rw [if_pos c6] at H
       have c6b0 : decide (0 ≤ x2_1) = true := decide_eq_true c6
       clear c6
       by_cases c7 : x2_1 < (x0_1.length : Int)
       ·rw [if_pos c7] at H
        have c7b0 : decide (x2_1 < (x0_1.length : Int)) = true := decide_eq_true c7
        clear c7
        obtain ⟨y414, hy414⟩ : ∃ y_ : List Int, y_ = (x0_1.set (x2_1 : Int).toNat (rd x0_1 x3_1)) := ⟨_, rfl⟩
        replace H : (slices_Reverse_byte_byte.l0 k1 (y414.set (x3_1 : Int).toNat (rd x0_1 x2_1)) (wrap64 (x2_1 + 1)) (wrap64 (x3_1 - 1))) = some r := by first | (rw [hy414]; with_reducible exact H) | (have H2_ := (Option.bind_some _ _).symm.trans H; rw [hy414]; with_reducible exact H2_) | (have H2_ := (Option.bind_some _ _).symm.trans H; with_reducible exact H2_) | with_reducible exact H | (rw [hy414]; exact H) | exact H
        have Ny414 := Aside0.mk hy414
        clear hy414
        obtain ⟨y415, hy415⟩ : ∃ y_ : List Int, y_ = (y414.set (x3_1 : Int).toNat (rd x0_1 x2_1)) := ⟨_, rfl⟩
        replace H : (slices_Reverse_byte_byte.l0 k1 y415 (wrap64 (x2_1 + 1)) (wrap64 (x3_1 - 1))) = some r := by first | (rw [hy415]; with_reducible exact H) | (have H2_ := (Option.bind_some _ _).symm.trans H; rw [hy415]; with_reducible exact H2_) | (have H2_ := (Option.bind_some _ _).symm.trans H; with_reducible exact H2_) | with_reducible exact H | (rw [hy415]; exact H) | exact H
        have Ny415 := Aside0.mk hy415
        clear hy415
        have H' := Aside0.mk H
        clear H
        try go_wp2
        replace HO_0 := Aside0.mk (Kd.R_drew HO_0.out)
        replace HK := Aside0.mk (Kept.drew HK.out)
        replace HB := Aside0.mk (below_drew1 HB.out)
        have p412 : 0 ≤ (x3_1 : Int) := of_decide_eq_true (by first | (with_reducible assumption) | assumption)
        have q412 : x3_1 < (x0_1.length : Int) := of_decide_eq_true (by first | (with_reducible assumption) | assumption)
        obtain ⟨ad412, e412, hx412_0⟩ := Kd.at_int (Kd.R_reads' HO_0.out).2.2 x3_1 p412 q412
        cases e412
        replace p412 := eq_true p412
        replace q412 := eq_true q412
        have p413 : 0 ≤ (x2_1 : Int) := of_decide_eq_true (by first | (with_reducible assumption) | assumption)
        have q413 : x2_1 < (x0_1.length : Int) := of_decide_eq_true (by first | (with_reducible assumption) | assumption)
        obtain ⟨ad413, e413, hx413_0⟩ := Kd.at_int (Kd.R_reads' HO_0.out).2.2 x2_1 p413 q413
        obtain rfl : ad412 = ad413 := (by injection e413)
        replace p413 := eq_true p413
        replace q413 := eq_true q413
        have p8 : 0 ≤ (x2_1 : Int) := of_decide_eq_true (by first | (with_reducible assumption) | assumption)
        have q8 : (x2_1 : Int) < ((x0_1.length : Int) : Int) := of_decide_eq_true (by first | (with_reducible assumption) | assumption)
        obtain ⟨go8, co8, eo8, gb8, gl8, cl8, HG8⟩ := Kd.R_form HO_0.out (by omega)
        (first | cases eo8 | (injection eo8 with ea_ en_ ec_; (first | subst ea_ | (injection ea_ with ea_; subst ea_)); subst ec_; clear en_))
        have GB8 := Aside0.mk gb8
        have GG8 := Aside0.mk HG8
        clear gb8 gl8 HG8
        have HMgo8 := Aside0.mk (show (P0_ go8 ∨ w.heap.size ≤ go8) from (HO_0.out.1 _ rfl))
        (first | simp only [add_plain] at hx412_0 | skip)
        (first | simp only [add_plain] at hx413_0 | skip)
        obtain ⟨hx8_0, hf8_0⟩ := Kd.R_celln 0 HO_0.out (x2_1 : Int) p8 q8
        replace p8 := eq_true p8
        replace q8 := eq_true q8
        have HP11 := Kd.R_putn HO_0.out (x2_1 : Int) (rd x0_1 x3_1)
        rw [← Ny414.out] at HP11
        have HQ11 := Aside0.mk HP11
        clear HP11
        have p9 : 0 ≤ (x3_1 : Int) := of_decide_eq_true (by first | (with_reducible assumption) | assumption)
        have q9 : (x3_1 : Int) < ((x0_1.length : Int) : Int) := of_decide_eq_true (by first | (with_reducible assumption) | assumption)
        obtain ⟨hx9_0, hf9_0⟩ := Kd.R_celln 0 HQ11.out (x3_1 : Int) p9 q9
        replace p9 := eq_true p9
        replace q9 := eq_true q9
        have HP12 := Kd.R_putn HQ11.out (x3_1 : Int) (rd x0_1 x2_1)
        rw [← Ny415.out] at HP12
        have HQ12 := Aside0.mk HP12
        clear HP12
        refine start_ (n := 16) (S := fun w' => w'.cell? ⟨go8, (x3_1).toNat, none⟩ = some (.int .u8 (rd x0_1 x3_1)) ∧ w'.cell? ⟨go8, (x2_1).toNat, none⟩ = some (.int .u8 (rd x0_1 x2_1))) (ds := [13, 15]) #[false, false, false, false, false, false, false, false, false, false, false, false, false, false, false, false] (by kernel_rfl) rfl rfl ⟨hx412_0, hx413_0⟩ (fun hHeld => ?_); refine with_tabW slices_Reverse_byte_byte.tab3 slices_Reverse_byte_byte.bits3 (fun HT_ HW_ => ?_)
        generalize wr.drew = w10 at HO_0 HK HB GG8 HQ11 HQ12 hf8_0 hf9_0 hx412_0 hx413_0 hx8_0 hx9_0 hHeld ⊢
        refine Short.pureS_ (i := 0) (N := some 14) #[true, false, false, false, false, false, false, false, false, false, false, false, false, false, false, false] (any_of HT_.out (by kernel_rfl)) ?_
        refine Short.pureS_ (i := 1) (N := some 15) #[true, true, false, false, false, false, false, false, false, false, false, false, false, false, false, false] (any_of HT_.out (by kernel_rfl)) ?_
        refine Short.pureS_ (i := 2) (N := some 16) #[true, true, true, false, false, false, false, false, false, false, false, false, false, false, false, false] (any_of HT_.out (by kernel_rfl)) ?_
        refine Short.pureS_ (i := 3) (N := some 17) #[true, true, true, true, false, false, false, false, false, false, false, false, false, false, false, false] (any_of HT_.out (by kernel_rfl)) ?_
        refine Short.pureS_ (i := 4) (N := some 18) #[true, true, true, true, true, false, false, false, false, false, false, false, false, false, false, false] (any_of HT_.out (by kernel_rfl)) ?_
        refine Short.pureS_ (i := 5) (N := some 19) #[true, true, true, true, true, true, false, false, false, false, false, false, false, false, false, false] (any_of HT_.out (by kernel_rfl)) ?_
        refine Short.pureS_ (i := 6) (N := some 20) #[true, true, true, true, true, true, true, false, false, false, false, false, false, false, false, false] (any_of HT_.out (by kernel_rfl)) ?_
        refine Short.pureS_ (i := 8) (N := some 22) #[true, true, true, true, true, true, true, false, true, false, false, false, false, false, false, false] (any_of HT_.out (by kernel_rfl)) ?_
        refine Short.pureS_ (i := 9) (N := some 23) #[true, true, true, true, true, true, true, false, true, true, false, false, false, false, false, false] (any_of HT_.out (by kernel_rfl)) ?_
        refine Short.pureS_ (i := 10) (N := some 24) #[true, true, true, true, true, true, true, false, true, true, true, false, false, false, false, false] (any_of HT_.out (by kernel_rfl)) ?_
        refine Short.takeS_ (i := 7) (N := some 21) #[true, true, true, true, true, true, true, true, true, true, true, false, false, false, false, false] (take_ofW HT_.out HW_.out (by kernel_rfl)) hHeld ?_
        refine Short.takeS_ (i := 11) (N := some 25) #[true, true, true, true, true, true, true, true, true, true, true, true, false, false, false, false] (take_ofW HT_.out HW_.out (by kernel_rfl)) hHeld ?_
        refine Short.pureS_ (i := 12) (N := some 26) #[true, true, true, true, true, true, true, true, true, true, true, true, true, false, false, false] (any_of HT_.out (by kernel_rfl)) ?_
        refine last_ (i := 13) (N := none) #[true, true, true, true, true, true, true, true, true, true, true, true, true, true, false, false] rfl rfl (one_of HT_.out (by kernel_rfl)) (by decide) (fun K hK => ?_)
        refine skip_ (w1 := ?_) (by rfl) rfl ?_ ?_
        rotate_left
        ·go_simp
         rfl
        refine hK.out _ _ ?_
        clear hK K
        refine Short.pureS_ (i := 14) (N := some 27) #[true, true, true, true, true, true, true, true, true, true, true, true, true, true, true, false] (any_of HT_.out (by kernel_rfl)) ?_
        refine last_ (i := 15) (N := none) #[true, true, true, true, true, true, true, true, true, true, true, true, true, true, true, true] rfl rfl (one_of HT_.out (by kernel_rfl)) (by decide) (fun K hK => ?_)
        refine skip_ (w1 := ?_) (by rfl) rfl ?_ ?_
        rotate_left
        ·go_simp
         rfl
        refine hK.out _ _ ?_
        clear hK K
        refine done_ (done_of HT_.out (by kernel_rfl)) ?_
        try go_wp2
        (try simp only [← hl0_1])
        go_roundg k1
        case measure => have := HK1.out; omega
        case rel => exact ⟨(y415), (wrap64 (x2_1 + 1)), (wrap64 (x3_1 - 1)), (by first | rfl | (simp; done) | (simp [*]; done)), (by first | rfl | (simp; done) | (simp [*]; done)), H', ⟨by have := HK1.out; omega⟩, ⟨by (try simp only [hl0_1]); (with_reducible repeat (first | apply Kd.R_alloc | apply Kd.R_drewN | apply Kd.R_drew)); exact HQ12.out⟩, ⟨by repeat (first | (with_reducible first | exact HK.out | apply Kept.alloc | apply Kept.drewN | apply Kept.drew | refine Kept.setCell ?_ HMgo8.out _ | refine Kept.setCell ?_ HMgo8.out _) | exact HK.out)⟩, ⟨by repeat (first | (with_reducible first | exact HB.out | apply below_alloc | apply pw_below_drewN | apply below_drew1 | refine below_set ?_ GB8.out | refine below_set ?_ GB8.out) | exact HB.out)⟩⟩
       ·rw [if_neg c7] at H
        exact absurd H (by simp)
      ·rw [if_neg c6] at H
       exact absurd H (by simp)
     ·rw [if_neg c5] at H
      exact absurd H (by simp)
    ·rw [if_neg c4] at H
     exact absurd H (by simp)
   ·rw [if_neg c3] at H
    have c3b0 : decide (x2_1 < x3_1) = false := decide_eq_false c3
    clear c3
    obtain rfl := Option.some.inj H
    go_wp2
    first | go_end0 | ((try simp only [Exit.inBlock, Exit.then]); refine bodyPost_ret (results_none rfl _ _ _) rfl ?_)
    exact ⟨by rfl, (by first | exact HO_0.out | (simp only [hl0_1]; exact HO_0.out)), by repeat (first | (with_reducible first | exact HB.out | apply below_alloc | apply pw_below_drewN | apply below_drew1) | exact HB.out), by repeat (first | (with_reducible first | exact HK.out | apply Kept.alloc | apply Kept.drewN | apply Kept.drew) | exact HK.out)⟩

theorem slices_Reverse_byte_byte.ev_l {l : List Int} (hl : l.length < 9223372036854775807) (d : Nat) : ∀ (y : List Int) (i : Nat), i ≤ l.length → l.length - 2 * i ≤ d → y.length = l.length → (∀ p, p < l.length → y.getD p 0 = if p < i ∨ l.length < p + 1 + i then l.getD (l.length - 1 - p) 0 else l.getD p 0) →
  Ev (fun k => slices_Reverse_byte_byte.l0 k y (i : Int) ((l.length : Int) - 1 - (i : Int))) l.reverse := by
 have stop : ∀ (y : List Int) (i : Nat), i ≤ l.length → l.length ≤ 2 * i + 1 → y.length = l.length → (∀ p, p < l.length → y.getD p 0 = if p < i ∨ l.length < p + 1 + i then l.getD (l.length - 1 - p) 0 else l.getD p 0) →
   Ev (fun k => slices_Reverse_byte_byte.l0 k y (i : Int) ((l.length : Int) - 1 - (i : Int))) l.reverse := by
  intro y i hi hd hy hp
  refine Ev.step (f := fun _ => some y) (fun k => ?_) ?_
  ·rw [slices_Reverse_byte_byte.l0, if_neg (by omega)]
  ·have : y = l.reverse := by
    refine List.ext_getElem (by rw [List.length_reverse]; exact hy) (fun p h1 h2 => ?_)
    rw [List.length_reverse] at h2
    have h3 := hp p h2
    rw [List.getD_eq_getElem?_getD, List.getElem?_eq_getElem h1] at h3
    rw [List.getElem_reverse]
    have h4 : l.getD (l.length - 1 - p) 0 = l[l.length - 1 - p] := by rw [List.getD_eq_getElem?_getD, List.getElem?_eq_getElem (by omega)]; rfl
    rw [← h4]
    refine Eq.trans h3 ?_
    split
    ·rfl
    ·rw [show l.length - 1 - p = p from by omega]
   rw [this]
   exact Ev.now _
 induction d with
 | zero =>
  intro y i hi hd hy hp
  exact stop y i hi (by omega) hy hp
 | succ d ih =>
  intro y i hi hd hy hp
  by_cases hlt : l.length ≤ 2 * i + 1
  ·exact stop y i hi hlt hy hp
  ·obtain ⟨j, hj⟩ : ∃ j, j = l.length - 1 - i := ⟨_, rfl⟩
   have hji : (l.length : Int) - 1 - (i : Int) = (j : Int) := by omega
   refine Ev.step (f := fun k => slices_Reverse_byte_byte.l0 k ((y.set i (y.getD j 0)).set j (y.getD i 0)) ((i + 1 : Nat) : Int) ((l.length : Int) - 1 - ((i + 1 : Nat) : Int))) (fun k => ?_) ?_
   ·rw [slices_Reverse_byte_byte.l0, hji, if_pos (by omega), if_pos (by omega), if_pos (by omega), if_pos (by omega), if_pos (by omega), Dec.w64s _ (by omega), Dec.w64 (by omega) (by omega), Int.toNat_natCast, Int.toNat_natCast, show rd y (i : Int) = y.getD i 0 from by simp [rd], show rd y (j : Int) = y.getD j 0 from by simp [rd], show (j : Int) - 1 = (l.length : Int) - 1 - ((i + 1 : Nat) : Int) from by omega]
   ·refine ih _ (i + 1) (by omega) (by omega) (by rw [List.length_set, List.length_set]; exact hy) (fun p hpl => ?_)
    have hi1 := hp i (by omega)
    have hj1 := hp j (by omega)
    rw [if_neg (by omega)] at hi1 hj1
    have gs : ∀ (z : List Int) (a : Nat) (v : Int) (b : Nat), (z.set a v).getD b 0 = if a = b ∧ a < z.length then v else z.getD b 0 := by
     intro z a v b
     rw [List.getD_eq_getElem?_getD, List.getD_eq_getElem?_getD, List.getElem?_set]
     by_cases h : a = b
     ·subst h
      by_cases h2 : a < z.length
      ·simp [h2]
      ·simp [h2]
     ·simp [h]
    rw [gs, gs, List.length_set, hi1, hj1, hp p hpl]
    by_cases e1 : j = p
    ·subst e1
     rw [if_pos ⟨rfl, by omega⟩, if_pos (by omega), show l.length - 1 - j = i from by omega]
    ·rw [if_neg (by omega)]
     by_cases e2 : i = p
     ·subst e2
      rw [if_pos ⟨rfl, by omega⟩, if_pos (by omega), hj]
     ·rw [if_neg (by omega)]
      by_cases e3 : p < i ∨ l.length < p + 1 + i
      ·rw [if_pos e3, if_pos (by omega)]
      ·rw [if_neg e3, if_neg (by omega)]
theorem slices_Reverse_byte_byte.ev {l : List Int} (hl : l.length < 9223372036854775807) : Ev (fun k => slices_Reverse_byte_byte.f k l) l.reverse := by
 have := slices_Reverse_byte_byte.ev_l hl l.length l 0 (by omega) (by omega) rfl (fun p hp => by rw [if_neg (by omega)])
 refine Ev.congr (fun k => ?_) this
 unfold slices_Reverse_byte_byte.f
 rw [Dec.w64 (by omega) (by omega), show (l.length : Int) - 1 - ((0 : Nat) : Int) = (l.length : Int) - 1 from by omega]
 rfl
mutual
def nat_Text.l0 : Nat → List Int → List Int → Option (ByteArray)
 | 0, _, _ => none
 | k + 1, x0, x3 => if (x0.length : Int) > 0 then ((nat_Of.f k 1000000000).bind fun t419 => ((nat_DivMod.f k x0 t419).bind fun bt422 => ((nat_Small.f k bt422.2.1).bind fun bt429 => (nat_Text.l1 k x3 bt422.1 bt429.1 0)))) else (nat_Text.l2 k x3)
def nat_Text.l1 : Nat → List Int → List Int → Int → Int → Option (ByteArray)
 | 0, _, _, _, _ => none
 | k + 1, x3, x4, x7, x26 => if x26 < 9 then (if x3.length < 140737488355328 then (nat_Text.l1 k (x3 ++ [(IntKind.u64.wrap (48 + (Int.tmod x7 10))) % 256]) x4 (IntKind.u64.wrap (Int.tdiv x7 10)) (wrap64 (x26 + 1))) else (none)) else (nat_Text.l0 k x4 x3)
def nat_Text.l2 : Nat → List Int → Option (ByteArray)
 | 0, _ => none
 | k + 1, x3 => if (x3.length : Int) > 1 then (if 0 ≤ (wrap64 ((x3.length : Int) - 1)) then (if (wrap64 ((x3.length : Int) - 1)) < (x3.length : Int) then (if (rd x3 (wrap64 ((x3.length : Int) - 1))) = 48 then (if (wrap64 ((x3.length : Int) - 1)) ≤ (x3.length : Int) then (nat_Text.l2 k (x3.take ((wrap64 ((x3.length : Int) - 1)) : Int).toNat)) else (none)) else (if (x3.length : Int) = 0 then (some (⟨#[48]⟩ : ByteArray)) else ((slices_Reverse_byte_byte.f k x3).bind fun t438 => (some (strOfNums t438))))) else (none)) else (none)) else (if (x3.length : Int) = 0 then (some (⟨#[48]⟩ : ByteArray)) else ((slices_Reverse_byte_byte.f k x3).bind fun t439 => (some (strOfNums t439))))
end
def nat_Text.f (k : Nat) (l0 : List Int) : Option (ByteArray) := (nat_trim.f k l0).bind fun t416 => (nat_Text.l0 k t416 ([] : List Int))
set_option maxHeartbeats 8000000 in
set_option maxRecDepth 100000 in
theorem nat_Text.calls (k : Nat) (A0 : Option Addr) (c0 : Nat) (l0 : List Int) (r : ByteArray) (w : World) (hr0 : Kd.C (Kd.int .u32) w A0 l0.length l0) (hc0 : l0.length ≤ c0) (h : nat_Text.f k l0 = some r) :
  Calls Try.prog 68 #[.slice A0 l0.length c0] w fun e w' => e = .returned (.string r) ∧ Below w.heap.size w w' := by
 have HR0 := Aside0.mk hr0
 have HC0 := Aside0.mk hc0
 clear hr0 hc0
 have HB := Aside0.mk (Below.refl w.heap.size w)
 have H : ((nat_trim.f k l0).bind fun t416 => (nat_Text.l0 k t416 ([] : List Int))) = some r := h
 clear h
 replace H := Option.bind_eq_some_iff.mp H
 obtain ⟨t416, A20, H⟩ := H
 try dsimp only at H
 have A2 := Aside0.mk A20
 clear A20
 have H' := Aside0.mk H
 clear H
 go_enter Try.func68, Try.ntmps68
 go_wp2_with (first | ((with_reducible refine gate_callee (f := 71) rfl ?_); refine Short.goesS_ (some 10) Try.func71 #[.slice A0 l0.length c0] ?_; (with_reducible refine (nat_trim.calls k _ _ l0 t416 _ HR0.out HC0.out A2.out).mono ?_); rintro e w3 ⟨v417, rfl, ho0, hb⟩; refine ⟨_, rfl, ?_⟩; have HO418 := Aside0.mk (Kd.R_lower ho0 (below_size (by repeat (first | (with_reducible first | exact HB.out | apply below_alloc | apply pw_below_drewN | apply below_drew1) | exact HB.out)))); replace HB := Aside0.mk (below_step (by repeat (first | (with_reducible first | exact HB.out | apply below_alloc | apply pw_below_drewN | apply below_drew1) | exact HB.out)) hb); (try clear hb); (try clear ho0)))
 go_loopg [0, 3] k (fun kq v0 v3 w' => ∃ (x0_1 : List Int) (x3_1 : List Int), Aside0 (nat_Text.l0 kq x0_1 x3_1 = some r) ∧ Aside0 (kq ≤ k) ∧ Aside0 (Kd.R (Kd.int .u32) 92 w' w.heap.size (fun _ => True) v0 x0_1) ∧ Aside0 (Kd.R (Kd.int .u8) 5 w' w.heap.size (fun _ => True) v3 x3_1) ∧ Aside0 (Below w.heap.size w w'))
 case atStart => exact ⟨(t416), (([] : List Int)), H', ⟨Nat.le_refl _⟩, ⟨by (with_reducible repeat (first | apply Kd.R_alloc | apply Kd.R_drewN | apply Kd.R_drew)); exact HO418.out⟩, ⟨by first | exact Kd.R_nil _ _ _ _ _ | exact Kd.N_nil _ _ _ _ _ | exact Kd.V_nil _ _ _ _ _ | exact Kd.Q_nil _ _ _ _ _ | exact Kd.S_nil _ _ _ _ _⟩, ⟨by repeat (first | (with_reducible first | exact HB.out | apply below_alloc | apply pw_below_drewN | apply below_drew1) | exact HB.out)⟩⟩
 case round =>
  clear H'
  try clear p2
  obtain ⟨x0_1, x3_1, HA, HK1, HO_0, HO_3, HB⟩ := hrel
  cases gk with
  | zero => exact absurd HA.out (by simp [nat_Text.l0])
  | succ k1 =>
   have H := HA.out
   clear HA
   simp only [nat_Text.l0] at H
   by_cases c4 : (x0_1.length : Int) > 0
   ·rw [if_pos c4] at H
    have c4b0 : decide (0 < (x0_1.length : Int)) = true := decide_eq_true c4
    have c4b1 : decide (0 < x0_1.length) = true := decide_eq_true (by omega)
    clear c4
    replace H := Option.bind_eq_some_iff.mp H
    obtain ⟨t419, A50, H⟩ := H
    try dsimp only at H
    have A5 := Aside0.mk A50
    clear A50
    replace H := Option.bind_eq_some_iff.mp H
    obtain ⟨⟨t422, t425, t428⟩, A60, H⟩ := H
    try dsimp only at H
    have A6 := Aside0.mk A60
    clear A60
    replace H := Option.bind_eq_some_iff.mp H
    obtain ⟨⟨t429, t430⟩, A70, H⟩ := H
    replace H : (nat_Text.l1 k1 x3_1 t422 t429 0) = some r := H
    have A7 := Aside0.mk A70
    clear A70
    have H' := Aside0.mk H
    clear H
    obtain ⟨Ao8, co8, eo8⟩ := Kd.R_slice HO_0.out
    subst eo8
    go_wp2_with (first | ((with_reducible refine gate_callee (f := 40) rfl ?_); refine Short.goesS_ (some 16) Try.func40 #[.int .u64 1000000000] ?_; (with_reducible refine (nat_Of.calls k1 1000000000 t419 _ A5.out).mono ?_); rintro e w9 ⟨v420, rfl, ho0, hb⟩; refine ⟨_, rfl, ?_⟩; replace HO_3 := Aside0.mk (Kd.R_below HO_3.out hb); have HO421 := Aside0.mk (Kd.R_lower (Kd.R_new' ho0 (Kd.R_lt HO_0.out)) (below_size (by repeat (first | (with_reducible first | exact HB.out | apply below_alloc | apply pw_below_drewN | apply below_drew1) | exact HB.out)))); replace HO_0 := Aside0.mk (Kd.R_elder' HO_0.out (Kd.R_base ho0) hb); replace HB := Aside0.mk (below_step (by repeat (first | (with_reducible first | exact HB.out | apply below_alloc | apply pw_below_drewN | apply below_drew1) | exact HB.out)) hb); (try clear hb); (try clear ho0); obtain ⟨Ao10, co10, eo10⟩ := Kd.R_slice HO421.out; subst eo10) | ((with_reducible refine gate_callee (f := 75) rfl ?_); refine Short.goesS_ (some 17) Try.func75 #[.slice Ao8 x0_1.length co8, .slice Ao10 t419.length co10] ?_; (with_reducible refine (nat_DivMod.calls k1 _ _ x0_1 _ _ t419 t422 t425 t428 _ ((Kd.R_reads' HO_0.out).2.2) ((Kd.R_reads' HO_0.out).2.1) ((Kd.R_reads' HO421.out).2.2) ((Kd.R_reads' HO421.out).2.1) A6.out).mono ?_); rintro e w11 ⟨v423, v426, rfl, ho0, ho1, hb⟩; refine ⟨_, rfl, ?_⟩; have HO424 := Aside0.mk (Kd.R_lower (Kd.R_new' (Kd.R_new' (Kd.R_mono (ok' := fun k_ => True) ho0 (fun _ hk_ => trivial)) (Kd.R_lt HO_0.out)) (Kd.R_lt HO421.out)) (below_size (by repeat (first | (with_reducible first | exact HB.out | apply below_alloc | apply pw_below_drewN | apply below_drew1) | exact HB.out)))); have HO427 := Aside0.mk (Kd.V_lower (Kd.V_mono (ok' := fun k_ => some k_ ≠ (v423 : Value).ownBlock ∧ some k_ ≠ (.slice Ao8 x0_1.length co8 : Value).ownBlock ∧ some k_ ≠ (u3 : Value).ownBlock ∧ some k_ ≠ (.slice Ao10 t419.length co10 : Value).ownBlock) ho1 (fun k_ hk_ => ⟨hk_.2, (Kd.fresh' (Kd.R_lt HO_0.out) k_ hk_.1), (Kd.fresh' (Kd.R_lt HO_3.out) k_ hk_.1), (Kd.fresh' (Kd.R_lt HO421.out) k_ hk_.1)⟩)) (below_size (by repeat (first | (with_reducible first | exact HB.out | apply below_alloc | apply pw_below_drewN | apply below_drew1) | exact HB.out)))); replace HO_0 := Aside0.mk (Kd.R_elder' HO_0.out (Kd.R_base ho0) hb); replace HO_3 := Aside0.mk (Kd.R_below HO_3.out hb); replace HO421 := Aside0.mk (Kd.R_elder' HO421.out (Kd.R_base ho0) hb); replace HB := Aside0.mk (below_step (by repeat (first | (with_reducible first | exact HB.out | apply below_alloc | apply pw_below_drewN | apply below_drew1) | exact HB.out)) hb); (try clear hb); (try clear ho0); (try clear ho1); obtain ⟨Ao12, co12, eo12⟩ := Kd.V_slice HO427.out; subst eo12) | ((with_reducible refine gate_callee (f := 93) rfl ?_); refine Short.goesS_ (some 23) Try.func93 #[.slice Ao12 t425.length co12] ?_; (with_reducible refine (nat_Small.calls k1 _ _ t425 t429 t430 _ ((Kd.V_reads' HO427.out).2.2) ((Kd.V_reads' HO427.out).2.1) A7.out).mono ?_); rintro e w13 ⟨rfl, hb⟩; refine ⟨_, rfl, ?_⟩; replace HO_0 := Aside0.mk (Kd.R_below HO_0.out hb); replace HO_3 := Aside0.mk (Kd.R_below HO_3.out hb); replace HO421 := Aside0.mk (Kd.R_below HO421.out hb); replace HO424 := Aside0.mk (Kd.R_below HO424.out hb); replace HO427 := Aside0.mk (Kd.V_below HO427.out hb); replace HB := Aside0.mk (below_step (by repeat (first | (with_reducible first | exact HB.out | apply below_alloc | apply pw_below_drewN | apply below_drew1) | exact HB.out)) hb); (try clear hb)))
    go_loopg [3, 7, 26] k1 (fun kq v3 v7 v26 w' => ∃ (x3_2 : List Int) (x7_2 : Int) (x26_2 : Int), v7 = .int .u64 x7_2 ∧ v26 = .int .i64 x26_2 ∧ Aside0 (nat_Text.l1 kq x3_2 t422 x7_2 x26_2 = some r) ∧ Aside0 (kq ≤ k1) ∧ Aside0 (Kd.R (Kd.int .u8) 5 w' w.heap.size (fun _ => True) v3 x3_2) ∧ Aside0 (Kd.R (Kd.int .u32) 92 w' w.heap.size (fun _ => True) v423 t422) ∧ Aside0 (Below w.heap.size w w'))
    case atStart => exact ⟨(x3_1), (t429), (0), (by first | rfl | (simp; done) | (simp [*]; done)), (by first | rfl | (simp; done) | (simp [*]; done)), H', ⟨Nat.le_refl _⟩, ⟨by (with_reducible repeat (first | apply Kd.R_alloc | apply Kd.R_drewN | apply Kd.R_drew)); exact HO_3.out⟩, ⟨by (with_reducible repeat (first | apply Kd.R_alloc | apply Kd.R_drewN | apply Kd.R_drew)); exact Kd.R_mono HO424.out (fun _ hk => trivial)⟩, ⟨by repeat (first | (with_reducible first | exact HB.out | apply below_alloc | apply pw_below_drewN | apply below_drew1) | exact HB.out)⟩⟩
    case round =>
     clear H'
     try clear p2
     try clear c4
     try clear c4b0
     try clear c4b1
     try clear c6
     try clear c7
     try clear c9
     try clear p2
     obtain ⟨x3_2, x7_2, x26_2, rfl, rfl, HA, HK2, HO_3, HO_4, HB⟩ := hrel
     cases gk with
     | zero => exact absurd HA.out (by simp [nat_Text.l1])
     | succ k2 =>
      have H := HA.out
      clear HA
      simp only [nat_Text.l1] at H
      by_cases c14 : x26_2 < 9
      ·rw [if_pos c14] at H
       have c14b0 : decide (x26_2 < 9) = true := decide_eq_true c14
       clear c14
       by_cases c15 : x3_2.length < 140737488355328
       ·rw [if_pos c15] at H
        have LMc15 := Aside0.mk c15
        clear c15
        obtain ⟨y431, hy431⟩ : ∃ y_ : List Int, y_ = (x3_2 ++ [(IntKind.u64.wrap (48 + (Int.tmod x7_2 10))) % 256]) := ⟨_, rfl⟩
        replace H : (nat_Text.l1 k2 y431 t422 (IntKind.u64.wrap (Int.tdiv x7_2 10)) (wrap64 (x26_2 + 1))) = some r := by first | (rw [hy431]; with_reducible exact H) | (have H2_ := (Option.bind_some _ _).symm.trans H; rw [hy431]; with_reducible exact H2_) | (have H2_ := (Option.bind_some _ _).symm.trans H; with_reducible exact H2_) | with_reducible exact H | (rw [hy431]; exact H) | exact H
        have Ny431 := Aside0.mk hy431
        clear hy431
        have H' := Aside0.mk H
        clear H
        go_wp2_with (first | ((with_reducible refine gate_builtin (b := .append) (xs := #[.tmp 28, .tmp 33]) rfl ?_); (try (refine gate_guard (by rfl) ?_; dsimp only)); at_builtin; refine Kd.R_append (Kd.int .u8) (w0 := w) w.heap.size rfl (.tmp 28) (.tmp 33) 106 5 (.int .u8 0) 1 rfl Try.underlying106 info5 rfl (by decide) (by omega) u3 x3_2 ((IntKind.u64.wrap (48 + (Int.tmod x7_2 10))) % 256) [.int .u8 ((IntKind.u64.wrap (48 + (Int.tmod x7_2 10))) % 256)] (fun _ => True) (fun _ => False) rfl rfl ?aP (fun _ hk => hk.elim) ?aF ?aO ?aB ?aS ?aL ?_; (case aP => exact rfl); (case aB => exact (by repeat (first | (with_reducible first | exact HB.out | apply below_alloc | apply pw_below_drewN | apply below_drew1) | exact HB.out))); (case aF => exact (fun _ _ => trivial)); (case aO => exact HO_3.out); (case aS => exact (below_size (by repeat (first | (with_reducible first | exact HB.out | apply below_alloc | apply pw_below_drewN | apply below_drew1) | exact HB.out)))); (case aL => have := LMc15.out; omega); intro v432 w16 ho hb hg hat; rw [← Ny431.out] at ho; replace HO_4 := Aside0.mk (Kd.R_over' HO_4.out (Kd.R_typed HO_3.out) (by decide) hg); replace HB := Aside0.mk (hb); have HO433 := Aside0.mk (ho); clear HO_3; clear ho hb hg hat))
        go_roundg k2
        case measure => have := HK1.out; have := HK2.out; omega
        case rel => exact ⟨(y431), (IntKind.u64.wrap (Int.tdiv x7_2 10)), (wrap64 (x26_2 + 1)), (by first | rfl | (simp; done) | (simp [*]; done)), (by first | rfl | (simp; done) | (simp [*]; done)), H', ⟨by have := HK1.out; have := HK2.out; omega⟩, ⟨by (with_reducible repeat (first | apply Kd.R_alloc | apply Kd.R_drewN | apply Kd.R_drew)); exact HO433.out⟩, ⟨by (with_reducible repeat (first | apply Kd.R_alloc | apply Kd.R_drewN | apply Kd.R_drew)); exact HO_4.out⟩, ⟨by repeat (first | (with_reducible first | exact HB.out | apply below_alloc | apply pw_below_drewN | apply below_drew1) | exact HB.out)⟩⟩
       ·rw [if_neg c15] at H
        exact absurd H (by simp)
      ·rw [if_neg c14] at H
       have c14b0 : decide (x26_2 < 9) = false := decide_eq_false c14
       clear c14
       have H' := Aside0.mk H
       clear H
       go_wp2
       go_roundg k2
       case measure => have := HK1.out; have := HK2.out; omega
       case rel => exact ⟨(t422), (x3_2), H', ⟨by have := HK1.out; have := HK2.out; omega⟩, ⟨by (with_reducible repeat (first | apply Kd.R_alloc | apply Kd.R_drewN | apply Kd.R_drew)); exact HO_4.out⟩, ⟨by (with_reducible repeat (first | apply Kd.R_alloc | apply Kd.R_drewN | apply Kd.R_drew)); exact HO_3.out⟩, ⟨by repeat (first | (with_reducible first | exact HB.out | apply below_alloc | apply pw_below_drewN | apply below_drew1) | exact HB.out)⟩⟩
   ·rw [if_neg c4] at H
    have c4b0 : decide (0 < (x0_1.length : Int)) = false := decide_eq_false c4
    have c4b1 : decide (0 < x0_1.length) = false := decide_eq_false (by omega)
    clear c4
    have H' := Aside0.mk H
    clear H
    obtain ⟨Ao17, co17, eo17⟩ := Kd.R_slice HO_0.out
    subst eo17
    go_wp2
    go_loopg [3] k1 (fun kq v3 w' => ∃ (x3_2 : List Int), Aside0 (nat_Text.l2 kq x3_2 = some r) ∧ Aside0 (kq ≤ k1) ∧ Aside0 (Kd.R (Kd.int .u8) 5 w' w.heap.size (fun _ => True) v3 x3_2) ∧ Aside0 (Below w.heap.size w w'))
    case atStart => exact ⟨(x3_1), H', ⟨Nat.le_refl _⟩, ⟨by (with_reducible repeat (first | apply Kd.R_alloc | apply Kd.R_drewN | apply Kd.R_drew)); exact HO_3.out⟩, ⟨by repeat (first | (with_reducible first | exact HB.out | apply below_alloc | apply pw_below_drewN | apply below_drew1) | exact HB.out)⟩⟩
    case round =>
     clear H'
     try clear c1
     try clear p2
     try clear c4
     try clear c4b0
     try clear c4b1
     try clear c6
     try clear p6
     try clear c7
     try clear c9
     try clear c14
     try clear c14b0
     try clear c15
     try clear p2
     obtain ⟨x3_2, HA, HK2, HO_3, HB⟩ := hrel
     cases gk with
     | zero => exact absurd HA.out (by simp [nat_Text.l2])
     | succ k2 =>
      have H := HA.out
      clear HA
      simp only [nat_Text.l2] at H
      by_cases c18 : (x3_2.length : Int) > 1
      ·rw [if_pos c18] at H
       have c18b0 : decide (1 < (x3_2.length : Int)) = true := decide_eq_true c18
       have c18b1 : decide (1 < x3_2.length) = true := decide_eq_true (by omega)
       clear c18
       obtain ⟨ji19, hji19⟩ : ∃ j_ : Int, (wrap64 ((x3_2.length : Int) - 1)) = j_ := ⟨_, rfl⟩
       replace H : (if 0 ≤ (ji19) then (if (ji19) < (x3_2.length : Int) then (if (rd x3_2 (ji19)) = 48 then (if (ji19) ≤ (x3_2.length : Int) then (nat_Text.l2 k2 (x3_2.take ((ji19) : Int).toNat)) else (none)) else (if (x3_2.length : Int) = 0 then (some (⟨#[48]⟩ : ByteArray)) else ((slices_Reverse_byte_byte.f k2 x3_2).bind fun t438 => (some (strOfNums t438))))) else (none)) else (none)) = some r := by first | (rw [hji19] at H; exact H) | (simp only [hji19] at H ⊢; exact H)
       have hji19w : (IntKind.i64.wrap ((x3_2.length : Int) - 1)) = ji19 := (i64_w _).trans hji19
       by_cases c20 : 0 ≤ (ji19)
       ·rw [if_pos c20] at H
        have c20b0 : decide (0 ≤ (ji19)) = true := decide_eq_true c20
        clear c20
        by_cases c21 : (ji19) < (x3_2.length : Int)
        ·rw [if_pos c21] at H
         have c21b0 : decide ((ji19) < (x3_2.length : Int)) = true := decide_eq_true c21
         clear c21
         by_cases c22 : (rd x3_2 (ji19)) = 48
         ·rw [if_pos c22] at H
          have c22b0 : ((rd x3_2 (ji19)) == 48) = true := beq_iff_eq.mpr c22
          have c22b1 : ((rd x3_2 (ji19)) != 48) = false := bne_eq_false_iff_eq.mpr c22
          clear c22
          by_cases c23 : (ji19) ≤ (x3_2.length : Int)
          ·rw [if_pos c23] at H
           have c23b0 := eq_true c23
           have c23b1 : decide ((ji19) ≤ (x3_2.length : Int)) = true := decide_eq_true c23
           clear c23
           obtain ⟨y435, hy435⟩ : ∃ y_ : List Int, y_ = (x3_2.take ((ji19) : Int).toNat) := ⟨_, rfl⟩
           replace H : (nat_Text.l2 k2 y435) = some r := by first | (rw [hy435]; with_reducible exact H) | (have H2_ := (Option.bind_some _ _).symm.trans H; rw [hy435]; with_reducible exact H2_) | (have H2_ := (Option.bind_some _ _).symm.trans H; with_reducible exact H2_) | with_reducible exact H | (rw [hy435]; exact H) | exact H
           have Ny435 := Aside0.mk hy435
           clear hy435
           have H' := Aside0.mk H
           clear H
           obtain ⟨Ao24, co24, eo24⟩ := Kd.R_slice HO_3.out
           subst eo24
           have p434 : 0 ≤ ((ji19) : Int) := of_decide_eq_true (by first | (with_reducible assumption) | assumption)
           have q434 : (ji19) < (x3_2.length : Int) := of_decide_eq_true (by first | (with_reducible assumption) | assumption)
           obtain ⟨ad434, e434, hx434_0⟩ := Kd.at_int (Kd.R_reads' HO_3.out).2.2 (ji19) p434 q434
           cases e434
           replace p434 := eq_true p434
           replace q434 := eq_true q434
           have q25 : ((ji19) : Int) ≤ ((x3_2.length : Int) : Int) := of_decide_eq_true (by first | (with_reducible assumption) | assumption)
           obtain ⟨i025, hi025, _, hsz25, _⟩ := info_parts info5
           have hcut25 := cut_to (P := Try.prog) 106 5 .i64 Try.underlying106 hi025 (some ad434) x3_2.length co24 (ji19) (of_decide_eq_true (by first | (with_reducible assumption) | assumption)) q25 (Kd.R_reads' HO_3.out).2.1
           have hr25 := Kd.R_take (m := ((ji19) : Int).toNat) HO_3.out (by omega)
           have hy25 : y435.length = ((ji19) : Int).toNat := (by rw [Ny435.out, List.length_take]; omega)
           rw [← Ny435.out] at hr25
           rw [← hy25] at hr25 hcut25
           clear hy25 hi025 hsz25 HO_3
           have HO437 := Aside0.mk hr25
           clear hr25
           replace q25 := eq_true q25
           go_wp2
           go_roundg k2
           case measure => have := HK1.out; have := HK2.out; omega
           case rel => exact ⟨(y435), H', ⟨by have := HK1.out; have := HK2.out; omega⟩, ⟨by (with_reducible repeat (first | apply Kd.R_alloc | apply Kd.R_drewN | apply Kd.R_drew)); exact HO437.out⟩, ⟨by repeat (first | (with_reducible first | exact HB.out | apply below_alloc | apply pw_below_drewN | apply below_drew1) | exact HB.out)⟩⟩
          ·rw [if_neg c23] at H
           exact absurd H (by simp)
         ·rw [if_neg c22] at H
          have c22b0 : ((rd x3_2 (ji19)) == 48) = false := beq_eq_false_iff_ne.mpr c22
          have c22b1 : ((rd x3_2 (ji19)) != 48) = true := bne_iff_ne.mpr c22
          by_cases c26 : (x3_2.length : Int) = 0
          ·rw [if_pos c26] at H
           have c26b0 : ((x3_2.length : Int) == 0) = true := beq_iff_eq.mpr c26
           have c26b1 : ((x3_2.length : Int) != 0) = false := bne_eq_false_iff_eq.mpr c26
           clear c26
           obtain rfl := Option.some.inj H
           obtain ⟨Ao27, co27, eo27⟩ := Kd.R_slice HO_3.out
           subst eo27
           have p434 : 0 ≤ ((ji19) : Int) := of_decide_eq_true (by first | (with_reducible assumption) | assumption)
           have q434 : (ji19) < (x3_2.length : Int) := of_decide_eq_true (by first | (with_reducible assumption) | assumption)
           obtain ⟨ad434, e434, hx434_0⟩ := Kd.at_int (Kd.R_reads' HO_3.out).2.2 (ji19) p434 q434
           cases e434
           replace p434 := eq_true p434
           replace q434 := eq_true q434
           go_wp2
           go_ret
           exact ⟨by first | rfl | (simp [errW_none, errW_some] <;> rfl) | (simp only [← hji19]; first | rfl | (simp [errW_none, errW_some] <;> rfl)) | (simp [*, errW_none, errW_some] <;> rfl), by repeat (first | (with_reducible first | exact HB.out | apply below_alloc | apply pw_below_drewN | apply below_drew1) | exact HB.out)⟩
          ·rw [if_neg c26] at H
           have c26b0 : ((x3_2.length : Int) == 0) = false := beq_eq_false_iff_ne.mpr c26
           have c26b1 : ((x3_2.length : Int) != 0) = true := bne_iff_ne.mpr c26
           have c26b2 : ¬ (x3_2 = []) := fun h_ => c26 (by rw [h_]; rfl)
           replace H := Option.bind_eq_some_iff.mp H
           obtain ⟨t438, A280, H⟩ := H
           replace H : (some (strOfNums t438)) = some r := H
           have A28 := Aside0.mk A280
           clear A280
           obtain rfl := Option.some.inj H
           obtain ⟨Ao29, co29, eo29⟩ := Kd.R_slice HO_3.out
           subst eo29
           have p434 : 0 ≤ ((ji19) : Int) := of_decide_eq_true (by first | (with_reducible assumption) | assumption)
           have q434 : (ji19) < (x3_2.length : Int) := of_decide_eq_true (by first | (with_reducible assumption) | assumption)
           obtain ⟨ad434, e434, hx434_0⟩ := Kd.at_int (Kd.R_reads' HO_3.out).2.2 (ji19) p434 q434
           cases e434
           replace p434 := eq_true p434
           replace q434 := eq_true q434
           go_wp2_with (first | ((with_reducible refine gate_callee (f := 94) rfl ?_); refine Short.goesS_ (some 60) Try.func94 #[.slice (some ad434) x3_2.length co29] ?_; (with_reducible refine (slices_Reverse_byte_byte.calls k2 (fun k_ => some k_ = (.slice (some ad434) x3_2.length co29 : Value).ownBlock) (.slice (some ad434) x3_2.length co29) x3_2 t438 w _ ?side1 (Kd.R_tight rfl HO_3.out) A28.out).mono ?_); (case side1 => repeat (first | (with_reducible first | exact HB.out | apply below_alloc | apply pw_below_drewN | apply below_drew1) | exact HB.out)); rintro e w30 ⟨rfl, hy0, hb, hkp⟩; refine ⟨_, rfl, ?_⟩; replace HO_3 := Aside0.mk (Kd.R_reok rfl hy0 (fun k_ e_ => HO_3.out.1 k_ e_)); replace HB := Aside0.mk (hb); (try clear hb); (try clear hkp); (try clear hy0); have hcv31 := own_string (P := Try.prog) Try.underlying106 Try.underlying5 Try.underlying9 (Kd.own_of_R HO_3.out)))
           go_ret
           exact ⟨by first | rfl | (simp [errW_none, errW_some] <;> rfl) | (simp only [← hji19]; first | rfl | (simp [errW_none, errW_some] <;> rfl)) | (simp [*, errW_none, errW_some] <;> rfl), by repeat (first | (with_reducible first | exact HB.out | apply below_alloc | apply pw_below_drewN | apply below_drew1) | exact HB.out)⟩
        ·rw [if_neg c21] at H
         exact absurd H (by simp)
       ·rw [if_neg c20] at H
        exact absurd H (by simp)
      ·rw [if_neg c18] at H
       have c18b0 : decide (1 < (x3_2.length : Int)) = false := decide_eq_false c18
       have c18b1 : decide (1 < x3_2.length) = false := decide_eq_false (by omega)
       clear c18
       by_cases c32 : (x3_2.length : Int) = 0
       ·rw [if_pos c32] at H
        have c32b0 : ((x3_2.length : Int) == 0) = true := beq_iff_eq.mpr c32
        have c32b1 : ((x3_2.length : Int) != 0) = false := bne_eq_false_iff_eq.mpr c32
        clear c32
        obtain rfl := Option.some.inj H
        obtain ⟨Ao33, co33, eo33⟩ := Kd.R_slice HO_3.out
        subst eo33
        go_wp2
        go_ret
        exact ⟨by rfl, by repeat (first | (with_reducible first | exact HB.out | apply below_alloc | apply pw_below_drewN | apply below_drew1) | exact HB.out)⟩
       ·rw [if_neg c32] at H
        have c32b0 : ((x3_2.length : Int) == 0) = false := beq_eq_false_iff_ne.mpr c32
        have c32b1 : ((x3_2.length : Int) != 0) = true := bne_iff_ne.mpr c32
        have c32b2 : ¬ (x3_2 = []) := fun h_ => c32 (by rw [h_]; rfl)
        replace H := Option.bind_eq_some_iff.mp H
        obtain ⟨t439, A340, H⟩ := H
        replace H : (some (strOfNums t439)) = some r := H
        have A34 := Aside0.mk A340
        clear A340
        obtain rfl := Option.some.inj H
        obtain ⟨Ao35, co35, eo35⟩ := Kd.R_slice HO_3.out
        subst eo35
        go_wp2_with (first | ((with_reducible refine gate_callee (f := 94) rfl ?_); refine Short.goesS_ (some 60) Try.func94 #[.slice Ao35 x3_2.length co35] ?_; (with_reducible refine (slices_Reverse_byte_byte.calls k2 (fun k_ => some k_ = (.slice Ao35 x3_2.length co35 : Value).ownBlock) (.slice Ao35 x3_2.length co35) x3_2 t439 w _ ?side1 (Kd.R_tight rfl HO_3.out) A34.out).mono ?_); (case side1 => repeat (first | (with_reducible first | exact HB.out | apply below_alloc | apply pw_below_drewN | apply below_drew1) | exact HB.out)); rintro e w36 ⟨rfl, hy0, hb, hkp⟩; refine ⟨_, rfl, ?_⟩; replace HO_3 := Aside0.mk (Kd.R_reok rfl hy0 (fun k_ e_ => HO_3.out.1 k_ e_)); replace HB := Aside0.mk (hb); (try clear hb); (try clear hkp); (try clear hy0); have hcv37 := own_string (P := Try.prog) Try.underlying106 Try.underlying5 Try.underlying9 (Kd.own_of_R HO_3.out)))
        go_ret
        exact ⟨by rfl, by repeat (first | (with_reducible first | exact HB.out | apply below_alloc | apply pw_below_drewN | apply below_drew1) | exact HB.out)⟩

/-- The noughts at the end are taken off, and the letters turned round. -/
theorem nat_Text.ev_2 (n : Nat) : ∀ {out : List Nat}, out.length = n → n < 4000000000 → Dec.Ds out → Ev (fun k => nat_Text.l2 k (Dec.cs out)) (Dec.dec (Dec.dv out)) := by
 have fin : ∀ (out : List Nat) (d : Nat), d < 10 → Dec.Ds out → out.length < 4000000000 → (out = [] ∨ d ≠ 0) → Ev (fun k => (slices_Reverse_byte_byte.f k (Dec.cs (out ++ [d]))).bind fun t205 => (some (strOfNums t205))) (Dec.dec (Dec.dv (out ++ [d]))) := by
  intro out d hd ho hl h0
  refine Ev.bind (slices_Reverse_byte_byte.ev (by rw [Dec.cs_length, List.length_append, List.length_singleton]; omega)) ?_
  rw [Dec.str_cs]
  by_cases hd0 : d = 0
  ·rcases h0 with h0 | h0
   ·subst hd0
    subst h0
    exact Ev.now _
   ·exact absurd hd0 h0
  ·unfold Dec.dec
   rw [Dec.dc_snoc ho hd hd0]
   exact Ev.now _
 induction n with
 | zero =>
  intro out hl hn h
  obtain rfl : out = [] := List.eq_nil_of_length_eq_zero hl
  refine Ev.step (f := fun _ => some (Dec.dec (Dec.dv []))) (fun k => ?_) (Ev.now _)
  rw [nat_Text.l2, Dec.cs_length, if_neg (by rw [List.length_nil]; omega), if_pos (by rw [List.length_nil]; omega)]
  exact congrArg some Dec.dec_zero.symm
 | succ n ih =>
  intro out hl hn h
  rcases List.eq_nil_or_concat out with rfl | ⟨l', d, rfl⟩
  ·simp at hl
  ·rw [List.concat_eq_append] at hl h ⊢
   have hd : d < 10 := h.right.head
   have hn' : l'.length = n := by simpa using hl
   have hlen : (Dec.cs (l' ++ [d])).length = l'.length + 1 := by rw [Dec.cs_length, List.length_append, List.length_singleton]
   have hp : wrap64 (((Dec.cs (l' ++ [d])).length : Int) - 1) = (l'.length : Int) := by rw [hlen, Dec.w64 (by omega) (by omega)]; omega
   by_cases h0 : n = 0
   ·obtain rfl : l' = [] := List.eq_nil_of_length_eq_zero (by omega)
    refine Ev.step (f := fun k => (slices_Reverse_byte_byte.f k (Dec.cs ([] ++ [d]))).bind fun t205 => (some (strOfNums t205))) (fun k => ?_) (fin [] d hd Dec.Ds.nil (by rw [List.length_nil]; omega) (.inl rfl))
    rw [nat_Text.l2, hlen, if_neg (by rw [List.length_nil]; omega), if_neg (by rw [List.length_nil]; omega)]
   ·by_cases hd0 : d = 0
    ·subst hd0
     refine Ev.step (f := fun k => nat_Text.l2 k (Dec.cs l')) (fun k => ?_) ?_
     ·rw [nat_Text.l2, hp, hlen, if_pos (by omega), if_pos (by omega), if_pos (by omega), Dec.rd_cs, if_pos (by omega), if_pos (by omega), Int.toNat_natCast, Dec.cs_take, List.take_left]
     ·rw [Dec.dv_snoc, Nat.mul_zero, Nat.add_zero]
      exact ih hn' (by omega) h.left
    ·refine Ev.step (f := fun k => (slices_Reverse_byte_byte.f k (Dec.cs (l' ++ [d]))).bind fun t205 => (some (strOfNums t205))) (fun k => ?_) (fin l' d hd h.left (by omega) (.inr hd0))
     rw [nat_Text.l2, hp, hlen, if_pos (by omega), if_pos (by omega), if_pos (by omega), Dec.rd_cs, if_neg (by omega), if_neg (by omega)]
/-- Nine digits of what is left, then what follows. -/
theorem nat_Text.ev_1 {x4 : List Int} {r : ByteArray} (out : List Nat) (ho : Dec.Ds out) (hl : out.length < 2000000000) (m : Nat)
  (next : ∀ o2 : List Nat, o2.length = out.length + 9 → Dec.Ds o2 → Dec.dv o2 = Dec.dv out + 10 ^ out.length * m → Ev (fun k => nat_Text.l0 k x4 (Dec.cs o2)) r) (d : Nat) : ∀ (q : Nat) (o2 : List Nat) (j : Nat), j + d = 9 → q < 10 ^ d → o2.length = out.length + j → Dec.Ds o2 → Dec.dv o2 + 10 ^ o2.length * q = Dec.dv out + 10 ^ out.length * m →
  Ev (fun k => nat_Text.l1 k (Dec.cs o2) x4 (q : Int) (j : Int)) r := by
 induction d with
 | zero =>
  intro q o2 j hj hq hlo hd hv
  obtain rfl : q = 0 := by rw [Nat.pow_zero] at hq; omega
  refine Ev.step (f := fun k => nat_Text.l0 k x4 (Dec.cs o2)) (fun k => ?_) (next o2 (by omega) hd (by rw [Nat.mul_zero, Nat.add_zero] at hv; exact hv))
  rw [nat_Text.l1, if_neg (by omega)]
 | succ d ih =>
  intro q o2 j hj hq hlo hd hv
  have hq9 : q < 10 ^ 9 := Nat.lt_of_lt_of_le hq (Nat.pow_le_pow_right (by omega) (by omega))
  have hq10 : q < 1000000000 := hq9
  refine Ev.step (f := fun k => nat_Text.l1 k (Dec.cs (o2 ++ [q % 10])) x4 ((q / 10 : Nat) : Int) ((j + 1 : Nat) : Int)) (fun k => ?_) ?_
  ·have e1 : (IntKind.u64.wrap (48 + ((q % 10 : Nat) : Int))) % 256 = ((48 + q % 10 : Nat) : Int) := by
    rw [show (48 : Int) + ((q % 10 : Nat) : Int) = ((48 + q % 10 : Nat) : Int) from by omega, u64_nat _ (by omega)]
    omega
   rw [nat_Text.l1, if_pos (by omega), if_pos (by rw [Dec.cs_length]; omega), Dec.tmod10, Dec.tdiv10, e1, u64_nat _ (by omega), Dec.cs_snoc, Dec.w64s _ (by omega)]
  ·refine ih (q / 10) _ (j + 1) (by omega) (by rw [Nat.pow_succ] at hq; omega) (by rw [List.length_append, List.length_singleton]; omega) (hd.snoc (Nat.mod_lt _ (by omega))) ?_
   rw [Dec.dv_snoc, List.length_append, List.length_singleton, Nat.pow_succ, ← hv]
   have h3 : 10 ^ o2.length * q = 10 ^ o2.length * (q % 10 + 10 * (q / 10)) := by congr 1; omega
   rw [Nat.mul_add, ← Nat.mul_assoc] at h3
   omega
theorem nat_Text.ev_0 (d : Nat) : ∀ (n : Nat) (out : List Nat), n < 1000000000 ^ d → (Num.nd n).length < 100000000 → out.length + 9 * d < 2000000000 → Dec.Ds out → Ev (fun k => nat_Text.l0 k (Num.nd n) (Dec.cs out)) (Dec.dec (Dec.dv out + 10 ^ out.length * n)) := by
 have stop : ∀ out : List Nat, out.length < 2000000000 → Dec.Ds out → Ev (fun k => nat_Text.l0 k (Num.nd 0) (Dec.cs out)) (Dec.dec (Dec.dv out + 10 ^ out.length * 0)) := by
  intro out hl ho
  rw [Nat.mul_zero, Nat.add_zero, Num.nd_zero]
  refine Ev.step (f := fun k => nat_Text.l2 k (Dec.cs out)) (fun k => ?_) (nat_Text.ev_2 _ rfl (by omega) ho)
  rw [nat_Text.l0, if_neg (by rw [List.length_nil]; omega)]
 induction d with
 | zero =>
  intro n out hn hl ho hd
  obtain rfl : n = 0 := by rw [Nat.pow_zero] at hn; omega
  exact stop out (by omega) hd
 | succ d ih =>
  intro n out hn hl ho hd
  by_cases h0 : n = 0
  ·subst h0
   exact stop out (by omega) hd
  ·have h2 : 0 < (Num.nd n).length := by
    rcases Nat.eq_zero_or_pos (Num.nd n).length with h | h
    ·exact absurd (Num.nd_eq_nil.1 (List.eq_nil_of_length_eq_zero h)) h0
    ·exact h
   obtain ⟨B, hB⟩ : ∃ B : Nat, B = 1000000000 := ⟨_, rfl⟩
   have hBi : (1000000000 : Int) = (B : Int) := by omega
   have hdm : ∀ k, nat_DivMod.f k (Num.nd n) (Num.nd B) = some (Num.nd (n / B), Num.nd (n % B), 0) := by
    intro k
    unfold nat_DivMod.f
    have h9 : (Num.nd B).length ≤ 1 := Num.nd_length_le (k := 1) (by rw [hB]; decide)
    rw [if_pos ((Num.okd_iff _).2 ⟨by omega, Num.Ws_nd _⟩), if_pos ((Num.okd_iff _).2 ⟨by omega, Num.Ws_nd _⟩), Num.nv_nd, Num.nv_nd, if_neg (by omega)]
   have hmod : n % B < 1000000000 := by rw [hB]; exact Nat.mod_lt _ (by omega)
   have hsm : ∀ k, nat_Small.f k (Num.nd (n % B)) = some (((n % B : Nat) : Int), true) := by
    intro k
    unfold nat_Small.f
    have h9 : (Num.nd (n % B)).length ≤ 1 := Num.nd_length_le (k := 1) (Nat.lt_trans hmod (by decide))
    rw [if_pos (Num.okw_of (by omega) (Num.Ws_nd _)), Num.nv_nd, if_pos (by omega)]
   have hof := nat_Of.ev B (by omega)
   refine Ev.step (f := fun k => (nat_Of.f k (B : Int)).bind fun t186 => ((nat_DivMod.f k (Num.nd n) t186).bind fun bt189 => ((nat_Small.f k bt189.2.1).bind fun bt196 => (nat_Text.l1 k (Dec.cs out) bt189.1 bt196.1 0)))) (fun k => ?_) (Ev.bind hof (Ev.bind (Ev.congr hdm (Ev.now _)) (Ev.bind (Ev.congr hsm (Ev.now _)) ?_)))
   ·rw [nat_Text.l0, if_pos (by omega), hBi]
   ·have hdv : (n / B) * B + n % B = n := by rw [Nat.mul_comm]; exact Nat.div_add_mod n B
    refine nat_Text.ev_1 out hd (by omega) (n % B) (fun o2 hl2 hd2 hv2 => ?_) 9 (n % B) out 0 (by omega) hmod rfl hd rfl
    have := ih (n / B) o2 (by rw [Nat.pow_succ] at hn; rw [hB]; exact Nat.div_lt_of_lt_mul (by rw [Nat.mul_comm]; exact hn)) (Nat.lt_of_le_of_lt (Num.nd_len_mono (Nat.div_le_self _ _)) hl) (by omega) hd2
    rw [hv2, hl2, Nat.pow_add, show 10 ^ 9 = B from by rw [hB]] at this
    have e : Dec.dv out + 10 ^ out.length * (n % B) + 10 ^ out.length * B * (n / B) = Dec.dv out + 10 ^ out.length * n := by
     rw [Nat.mul_assoc, Nat.add_assoc, ← Nat.mul_add, Nat.mul_comm B, Nat.add_comm (n % B), hdv]
    rw [e] at this
    exact this
theorem nat_Text.ev {l : List Int} (hW : Num.Ws l) (hl : l.length < 10000000) : Ev (fun k => nat_Text.f k l) (Dec.dec (Num.nv l)) := by
 have hlt := Num.nv_lt hW
 have hp : 2 ^ (32 * l.length) ≤ 1000000000 ^ (2 * l.length) := by
  rw [Nat.pow_mul, Nat.pow_mul]
  exact Nat.pow_le_pow_left (by decide) _
 have := nat_Text.ev_0 (2 * l.length) (Num.nv l) [] (Nat.lt_of_lt_of_le hlt hp) (Nat.lt_of_le_of_lt (Num.nd_length_le hlt) (by omega)) (by rw [List.length_nil]; omega) Dec.Ds.nil
 rw [List.length_nil, Dec.dv, Nat.pow_zero, Nat.one_mul, Nat.zero_add] at this
 unfold nat_Text.f
 exact Ev.bind (nat_trim.ev hW (by omega)) this
set_option synthInstance.checkSynthOrder false in
open Lin in
instance nat_Text.t {k : Nat} {l0 : List Int} {r : ByteArray} [h : Ans (nat_Text.f k l0) r] : Tl Try.prog 68 [.one (.row l0)] (.el (.one (.val (.string r)))) := ⟨Tells.of Try.func68 fun out w vs ho hl hv => by
 obtain ⟨u0, rfl, h0⟩ := args1 hl hv
 obtain ⟨A0, c0, rfl, hc0, hr0, hb0⟩ := h0
 refine (nat_Text.calls k A0 c0 l0 _ w hr0 hc0 h.out).mono ?_
 rintro e w' ⟨rfl, hb⟩
 exact ⟨_, rfl, ⟨rfl, rfl⟩, hb⟩⟩
def whole_Text.f (k : Nat) (a0_0 : Bool) (l0_1 : List Int) : Option (ByteArray) := (whole_Sign.f k a0_0 l0_1).bind fun t441 => (if t441 < 0 then ((nat_Text.f k l0_1).bind fun t442 => (if 1 + t442.size ≤ 9223372036854775807 then (some ((⟨#[45]⟩ : ByteArray) ++ t442)) else (none))) else ((nat_Text.f k l0_1).bind fun t443 => (some t443)))
theorem whole_Text.ev {m : Bool} {l : List Int} {z : Int} {K : Nat} (h : Zn.Is m l z K) (hK : K < 1000000) : Ev (fun k => whole_Text.f k m l) (Zn.tz z) := by
 have hl := h.len
 have T := nat_Text.ev h.ws (by omega)
 rw [← h.abs] at T
 unfold whole_Text.f
 refine Ev.bind (whole_Sign.ev h hK) ?_
 by_cases hz : z < 0
 ·rw [Zn.tz_neg hz]
  refine Dec.yes ((Zn.sign_lt z).2 hz) (Ev.bind T (Dec.yes ?_ (Ev.now _)))
  have := Dec.dc_len32 (n := z.natAbs) (k := K + 1) (by omega) (Num.le_pow h.lt (by omega))
  rw [Zn.dec_size]
  omega
 ·rw [Zn.tz_pos hz]
  exact Dec.no (fun e => hz ((Zn.sign_lt z).1 e)) (Ev.bind T (Ev.now _))
set_option synthInstance.checkSynthOrder false in
open Lin in
set_option maxHeartbeats 4000000 in
instance whole_Text.t {k : Nat} {a0_0 : Bool} {l0_1 : List Int} {r : ByteArray} [h : Ans (whole_Text.f k a0_0 l0_1) r] : Tl Try.prog 67 [.agg [.val (.bool a0_0), .row l0_1]] (.el (.one (.val (.string r)))) := by
 have h := h.out
 unfold whole_Text.f at h
 repeat' (first | (replace h := Lin.bndK h) | (replace h := Lin.bnd h; obtain ⟨_, _, h⟩ := h) | split at h | cases h)
 all_goals exact ⟨Tells.go Try.func67 Try.ntmps67⟩
def rat_Text.f (k : Nat) (a0_0 : Bool) (l0_1 : List Int) (l0_2 : List Int) : Option (ByteArray) := (rat_Make.f k a0_0 l0_1 l0_2).bind fun bt445 => ((rat_Whole.f k bt445.1 bt445.2.1 bt445.2.2).bind fun t452 => (if t452 = true then ((whole_Text.f k bt445.1 bt445.2.1).bind fun t453 => (some t453)) else ((whole_Text.f k bt445.1 bt445.2.1).bind fun t454 => (if t454.size + 1 ≤ 9223372036854775807 then ((nat_Text.f k bt445.2.2).bind fun t455 => (if (t454 ++ (⟨#[47]⟩ : ByteArray)).size + t455.size ≤ 9223372036854775807 then (some ((t454 ++ (⟨#[47]⟩ : ByteArray)) ++ t455)) else (none))) else (none)))))
def rat_Text.tq (r : Rat) : ByteArray := if r.den = 1 then Zn.tz r.num else (Zn.tz r.num ++ (⟨#[47]⟩ : ByteArray)) ++ Dec.dec r.den
theorem rat_Text.ev {m : Bool} {l1 l2 : List Int} {r : Rat} {K : Nat} (h : Qn.Is m l1 l2 r K) (hK1 : 1 ≤ K) (hK : K < 300000) : Ev (fun k => rat_Text.f k m l1 l2) (rat_Text.tq r) := by
 have M := rat_Make.ev h.num h.ws h.len hK1 (by omega)
 rw [h.val] at M
 have S := h.sm hK1
 have T := whole_Text.ev (Zn.Is.zd S.num) (by omega)
 have B := nat_Text.ev (Num.Ws_nd r.den) (by have := Num.nd_length_le S.den; omega)
 rw [Num.nv_nd] at B
 have s1 := Zn.tz_size_le hK1 S.num
 have s2 := Dec.dc_len32 hK1 S.den
 unfold rat_Text.f rat_Text.tq
 refine Ev.bind M (Ev.bind (rat_Whole.ev (Qn.Is.qd S) hK1 hK) ?_)
 by_cases hd : r.den = 1
 ·rw [if_pos hd]
  exact Dec.yes (decide_eq_true hd) (Ev.bind T (Ev.now _))
 ·rw [if_neg hd]
  refine Dec.no (by rw [decide_eq_false hd]; decide) (Ev.bind T (Dec.yes (by omega) (Ev.bind B (Dec.yes ?_ (Ev.now _)))))
  rw [ByteArray.size_append, Zn.dec_size]
  have : (⟨#[47]⟩ : ByteArray).size = 1 := rfl
  omega
set_option synthInstance.checkSynthOrder false in
open Lin in
set_option maxHeartbeats 4000000 in
instance rat_Text.t {k : Nat} {a0_0 : Bool} {l0_1 : List Int} {l0_2 : List Int} {r : ByteArray} [h : Ans (rat_Text.f k a0_0 l0_1 l0_2) r] : Tl Try.prog 37 [.agg [.val (.bool a0_0), .row l0_1, .row l0_2]] (.el (.one (.val (.string r)))) := by
 have h := h.out
 unfold rat_Text.f at h
 repeat' (first | (replace h := Lin.bndK h) | (replace h := Lin.bnd h; obtain ⟨_, _, h⟩ := h) | split at h | cases h)
 all_goals exact ⟨Tells.go Try.func37 Try.ntmps37⟩
section
open Lin Flo Ieee
theorem one_eq {J : Nat} (hJ : J = 1018) : vn 4591870180066957721 = 7205759403792793 * 2 ^ J ∧ vn 4591870180066957722 = 7205759403792794 * 2 ^ J := by
  rw [show (4591870180066957721 : Nat) = 1019 * 4503599627370496 + 2702159776422297 from rfl, show (4591870180066957722 : Nat) = 1019 * 4503599627370496 + 2702159776422298 from rfl, vn_mul (by decide) (by decide), vn_mul (by decide) (by decide), show 1019 - 1 = J by omega]
  exact ⟨rfl, rfl⟩
theorem fq_one : fq 4591870180066957722 = mkRat 3602879701896397 36028797018963968 := by
  unfold fq
  obtain ⟨J, hJ⟩ : ∃ J, J = 1018 := ⟨_, rfl⟩
  refine (Rat.mkRat_eq_iff (Nat.ne_of_gt (Nat.two_pow_pos _)) (by decide)).2 ?_
  rw [sv_of (by decide), (one_eq hJ).2, show place = 56 + J by rw [place_eq]; omega, Nat.pow_add]
  generalize 2 ^ J = X
  omega
theorem fq_one_num : (fq 4591870180066957722).num = 3602879701896397 := by
  rw [fq_one]
  exact Qn.num_eq false 3602879701896397 _ (by decide)
theorem fq_one_den : (fq 4591870180066957722).den = 36028797018963968 := by
  rw [fq_one]
  exact Qn.den_eq false 3602879701896397 _ (by decide)
theorem text_one : rat_Text.tq (fq 4591870180066957722) = ⟨#[51, 54, 48, 50, 56, 55, 57, 55, 48, 49, 56, 57, 54, 51, 57, 55, 47, 51, 54, 48, 50, 56, 55, 57, 55, 48, 49, 56, 57, 54, 51, 57, 54, 56]⟩ := by
  unfold rat_Text.tq
  rw [fq_one_num, fq_one_den, if_neg (by decide), Zn.tz_pos (by decide)]
  have h1 : Dec.dec 3602879701896397 = ⟨#[51, 54, 48, 50, 56, 55, 57, 55, 48, 49, 56, 57, 54, 51, 57, 55]⟩ := by
    unfold Dec.dec Dec.dc
    rw [if_neg (by decide)]
    simp [Dec.dd, Dec.tx, Dec.ch]
  have h2 : Dec.dec 36028797018963968 = ⟨#[51, 54, 48, 50, 56, 55, 57, 55, 48, 49, 56, 57, 54, 51, 57, 54, 56]⟩ := by
    unfold Dec.dec Dec.dc
    rw [if_neg (by decide)]
    simp [Dec.dd, Dec.tx, Dec.ch]
  rw [show (3602879701896397 : Int).natAbs = 3602879701896397 from rfl, h1, h2]
  rfl
theorem tenth_eq : ((1 : Int) : Rat) / ((10 : Int) : Rat) = mkRat 1 10 := by
  rw [← Rat.divInt_eq_div, show (10 : Int) = ((10 : Nat) : Int) from rfl, Rat.divInt_ofNat]
theorem tenth_low : Low (mkRat 1 10) 4591870180066957721 := by
  have en : (mkRat 1 10).num = 1 := by rfl
  have ed : (mkRat 1 10).den = 10 := by rfl
  obtain ⟨J, hJ⟩ : ∃ J, J = 1018 := ⟨_, rfl⟩
  have hp : (2 : Nat) ^ place = 72057594037927936 * 2 ^ J := by rw [show place = 56 + J by rw [place_eq]; omega, Nat.pow_add]
  have hX : 0 < 2 ^ J := Nat.two_pow_pos _
  refine ⟨by decide, ?_, .inr ?_⟩
  · unfold D
    rw [sv_of (by decide), (one_eq hJ).1, en, ed, hp]
    generalize 2 ^ J = X at *
    omega
  · unfold D
    rw [sv_of (by decide), show (4591870180066957721 + 1 : Nat) = 4591870180066957722 from rfl, (one_eq hJ).2, en, ed, hp]
    generalize 2 ^ J = X at *
    omega
theorem tenth_hi : Hi (mkRat 1 10) 4591870180066957721 = 4591870180066957722 := by
  have en : (mkRat 1 10).num = 1 := by rfl
  have ed : (mkRat 1 10).den = 10 := by rfl
  obtain ⟨J, hJ⟩ : ∃ J, J = 1018 := ⟨_, rfl⟩
  have hp : (2 : Nat) ^ place = 72057594037927936 * 2 ^ J := by rw [show place = 56 + J by rw [place_eq]; omega, Nat.pow_add]
  have hX : 0 < 2 ^ J := Nat.two_pow_pos _
  have h : D 4591870180066957721 (mkRat 1 10) < 0 := by
    unfold D
    rw [sv_of (by decide), (one_eq hJ).1, en, ed, hp]
    generalize 2 ^ J = X at *
    omega
  unfold Hi
  rw [if_neg (by rw [Int.sign_eq_neg_one_of_neg h]; decide)]
theorem awake_t : Tl Try.prog 14 [] (.el (.one (.val (.bool true)))) := by
  have E := Exact_t (b := 4591870180066957722) (by decide) (by decide)
  obtain ⟨k1, o⟩ := (rat_Of.ev (n := 1) (d := 10) (by omega) (by omega) (by omega) (by omega) (by omega)).rounds
  rw [tenth_eq] at o
  have O : Ans (rat_Of.f k1 1 10) ((Qn.qd (mkRat 1 10)).1, (Qn.qd (mkRat 1 10)).2.1, (Qn.qd (mkRat 1 10)).2.2, 0) := ⟨o⟩
  have B := Btw_t (Qn.Is.qd (r := mkRat 1 10) (K := 1) ⟨by decide, by decide⟩) (Nat.le_refl 1) (by omega) (by decide) tenth_low
  rw [tenth_hi] at B
  obtain ⟨k2, t⟩ := (rat_Text.ev (Qn.Is.qd (fq_sm (b := 4591870180066957722) (by decide))) (by rw [wide_eq]; omega) (by rw [wide_eq]; omega)).rounds
  have T : Ans (rat_Text.f k2 (Qn.qd (fq 4591870180066957722)).1 (Qn.qd (fq 4591870180066957722)).2.1 (Qn.qd (fq 4591870180066957722)).2.2) ⟨#[51, 54, 48, 50, 56, 55, 57, 55, 48, 49, 56, 57, 54, 51, 57, 55, 47, 51, 54, 48, 50, 56, 55, 57, 55, 48, 49, 56, 57, 54, 51, 57, 54, 56]⟩ := ⟨by rw [t, text_one]⟩
  have hk : kindR 4591870180066957722 = 2 := by decide
  have C : Tl Try.prog 11 [.one (.val (.float .f64 4591870180066957722))] (.el (.one (.val (.int .i64 2)))) := by
    have := kind_t (b := 4591870180066957722)
    rwa [hk] at this
  have q : (double.order 4591870180066957722 4591870180066957722 == some .eq) = true := by rw [ord_eq (by decide) (by decide)]; exact decide_eq_true rfl
  exact ⟨Tells.goF Try.func14 Try.ntmps14⟩
end
def offcutref04_Kind.f (a0 : Int) : Option (Int) := if (Int.tmod (IntKind.u64.wrap (Int.tdiv a0 4503599627370496)) 2048) = 2047 then (if (Int.tmod a0 4503599627370496) = 0 then (some (wrap64 (3 + (wrap64 (IntKind.u64.wrap (Int.tdiv a0 9223372036854775808)))))) else (some 5)) else (if (Int.tmod (IntKind.u64.wrap (Int.tdiv a0 4503599627370496)) 2048) = 0 then (if (Int.tmod a0 4503599627370496) = 0 then (some (wrap64 (IntKind.u64.wrap (Int.tdiv a0 9223372036854775808)))) else (some 2)) else (some 2))
set_option maxHeartbeats 8000000 in
set_option maxRecDepth 100000 in
theorem offcutref04_Kind.calls (a0 : Int) (r : Int) (w : World) (h : offcutref04_Kind.f a0 = some r) :
  Calls Try.prog 13 #[.int .u64 a0] w fun e w' => e = .returned (.int .i64 r) ∧ Drawn0 w w' := by
 have H : (if (Int.tmod (IntKind.u64.wrap (Int.tdiv a0 4503599627370496)) 2048) = 2047 then (if (Int.tmod a0 4503599627370496) = 0 then (some (wrap64 (3 + (wrap64 (IntKind.u64.wrap (Int.tdiv a0 9223372036854775808)))))) else (some 5)) else (if (Int.tmod (IntKind.u64.wrap (Int.tdiv a0 4503599627370496)) 2048) = 0 then (if (Int.tmod a0 4503599627370496) = 0 then (some (wrap64 (IntKind.u64.wrap (Int.tdiv a0 9223372036854775808)))) else (some 2)) else (some 2))) = some r := h
 clear h
 by_cases c2 : (Int.tmod (IntKind.u64.wrap (Int.tdiv a0 4503599627370496)) 2048) = 2047
 ·rw [if_pos c2] at H
  have c2b0 : ((Int.tmod (IntKind.u64.wrap (Int.tdiv a0 4503599627370496)) 2048) == 2047) = true := beq_iff_eq.mpr c2
  have c2b1 : ((Int.tmod (IntKind.u64.wrap (Int.tdiv a0 4503599627370496)) 2048) != 2047) = false := bne_eq_false_iff_eq.mpr c2
  clear c2
  by_cases c3 : (Int.tmod a0 4503599627370496) = 0
  ·rw [if_pos c3] at H
   have c3b0 : ((Int.tmod a0 4503599627370496) == 0) = true := beq_iff_eq.mpr c3
   have c3b1 : ((Int.tmod a0 4503599627370496) != 0) = false := bne_eq_false_iff_eq.mpr c3
   clear c3
   obtain rfl := Option.some.inj H
   go_enter Try.func13, Try.ntmps13
   go_wp2
   go_ret
   exact ⟨by first | rfl | (simp; done) | (simp [*]; done), by repeat (first | exact Drawn0.refl _ | apply Drawn0.step)⟩
  ·rw [if_neg c3] at H
   have c3b0 : ((Int.tmod a0 4503599627370496) == 0) = false := beq_eq_false_iff_ne.mpr c3
   have c3b1 : ((Int.tmod a0 4503599627370496) != 0) = true := bne_iff_ne.mpr c3
   obtain rfl := Option.some.inj H
   go_enter Try.func13, Try.ntmps13
   go_wp2
   go_ret
   exact ⟨by first | rfl | (simp; done) | (simp [*]; done), by repeat (first | exact Drawn0.refl _ | apply Drawn0.step)⟩
 ·rw [if_neg c2] at H
  have c2b0 : ((Int.tmod (IntKind.u64.wrap (Int.tdiv a0 4503599627370496)) 2048) == 2047) = false := beq_eq_false_iff_ne.mpr c2
  have c2b1 : ((Int.tmod (IntKind.u64.wrap (Int.tdiv a0 4503599627370496)) 2048) != 2047) = true := bne_iff_ne.mpr c2
  by_cases c4 : (Int.tmod (IntKind.u64.wrap (Int.tdiv a0 4503599627370496)) 2048) = 0
  ·rw [if_pos c4] at H
   have c4b0 : ((Int.tmod (IntKind.u64.wrap (Int.tdiv a0 4503599627370496)) 2048) == 0) = true := beq_iff_eq.mpr c4
   have c4b1 : ((Int.tmod (IntKind.u64.wrap (Int.tdiv a0 4503599627370496)) 2048) != 0) = false := bne_eq_false_iff_eq.mpr c4
   clear c4
   by_cases c5 : (Int.tmod a0 4503599627370496) = 0
   ·rw [if_pos c5] at H
    have c5b0 : ((Int.tmod a0 4503599627370496) == 0) = true := beq_iff_eq.mpr c5
    have c5b1 : ((Int.tmod a0 4503599627370496) != 0) = false := bne_eq_false_iff_eq.mpr c5
    clear c5
    obtain rfl := Option.some.inj H
    go_enter Try.func13, Try.ntmps13
    go_wp2
    go_ret
    exact ⟨by first | rfl | (simp; done) | (simp [*]; done), by repeat (first | exact Drawn0.refl _ | apply Drawn0.step)⟩
   ·rw [if_neg c5] at H
    have c5b0 : ((Int.tmod a0 4503599627370496) == 0) = false := beq_eq_false_iff_ne.mpr c5
    have c5b1 : ((Int.tmod a0 4503599627370496) != 0) = true := bne_iff_ne.mpr c5
    obtain rfl := Option.some.inj H
    go_enter Try.func13, Try.ntmps13
    go_wp2
    go_ret
    exact ⟨by first | rfl | (simp; done) | (simp [*]; done), by repeat (first | exact Drawn0.refl _ | apply Drawn0.step)⟩
  ·rw [if_neg c4] at H
   have c4b0 : ((Int.tmod (IntKind.u64.wrap (Int.tdiv a0 4503599627370496)) 2048) == 0) = false := beq_eq_false_iff_ne.mpr c4
   have c4b1 : ((Int.tmod (IntKind.u64.wrap (Int.tdiv a0 4503599627370496)) 2048) != 0) = true := bne_iff_ne.mpr c4
   obtain rfl := Option.some.inj H
   go_enter Try.func13, Try.ntmps13
   go_wp2
   go_ret
   exact ⟨by first | rfl | (simp; done) | (simp [*]; done), by repeat (first | exact Drawn0.refl _ | apply Drawn0.step)⟩
set_option synthInstance.checkSynthOrder false in
open Lin in
instance offcutref04_Kind.t {a0 : Int} {r : Int} [h : Ans (offcutref04_Kind.f a0) r] : Tl Try.prog 13 [.one (.val (.int .u64 a0))] (.el (.one (.val (.int .i64 r)))) := ⟨Tells.of Try.func13 fun out w vs ho hl hv => by
 obtain ⟨u0, rfl, h0⟩ := args1 hl hv
 obtain rfl := h0.1
 refine (offcutref04_Kind.calls a0 _ w h.out).mono ?_
 rintro e w' ⟨rfl, hb⟩
 exact ⟨_, rfl, ⟨rfl, rfl⟩, below_of_drawn hb⟩⟩
section
open Lin Flo Ieee
/-- What a word is, by the document. -/
def kd (n : Nat) : Int := if top < rung n then 5 else if rung n = top then (if neg n then 4 else 3) else if rung n = 0 then (if neg n then 1 else 0) else 2
theorem neg_iff {n : Nat} (hn : n < 18446744073709551616) : neg n = decide (9223372036854775808 ≤ n) := by
  unfold neg
  rw [Bool.eq_iff_iff, beq_iff_eq, decide_eq_true_iff]
  omega
theorem flip {n : Nat} (hn : n < 18446744073709551616) : rung (n ^^^ 9223372036854775808) = rung n ∧ neg (n ^^^ 9223372036854775808) = !neg n ∧ n ^^^ 9223372036854775808 < 18446744073709551616 := by
  by_cases h : n < 9223372036854775808
  · have hlt : 9223372036854775808 + n < 18446744073709551616 := by omega
    rw [xor_of h, neg_iff hn, neg_iff hlt]
    refine ⟨by unfold rung; omega, ?_, hlt⟩
    rw [decide_eq_true (by omega), decide_eq_false (by omega)]
    rfl
  · obtain ⟨r, hr⟩ : ∃ r, n = 9223372036854775808 + r := ⟨n - 9223372036854775808, by omega⟩
    have hrb : r < 9223372036854775808 := by omega
    have e : n ^^^ 9223372036854775808 = r := by rw [hr, ← xor_of hrb, Nat.xor_assoc, Nat.xor_self, Nat.xor_zero]
    rw [e, neg_iff hn, neg_iff (n := r) (by omega)]
    refine ⟨by unfold rung; omega, ?_, by omega⟩
    rw [decide_eq_false (by omega), decide_eq_true (by omega)]
    rfl
theorem infR_eq {n : Nat} (h : rung n ≤ top) : infR n = decide ((top : Int) ≤ key n) := by
  unfold infR
  rw [ord_gt h (by decide), key_of (x := 9218868437227405311) (by decide)]
  unfold top
  exact decide_eq_decide.2 (by omega)
theorem kindR_eq {n : Nat} (hn : n < 18446744073709551616) : kindR n = kd n := by
  unfold kindR kd
  by_cases h1 : top < rung n
  · rw [if_pos h1, order_nanl h1]
    rfl
  · obtain ⟨f1, f2, f3⟩ := flip hn
    have hle : rung n ≤ top := by omega
    rw [if_neg h1, nan_false hle, infR_eq hle, infR_eq (n := n ^^^ 9223372036854775808) (by rw [f1]; exact hle)]
    have hz : (double.order n 0 != some .eq) = !decide (key n = 0) := by
      unfold bne
      rw [ord_eq hle (by decide), key_of (x := 0) (by decide)]
      rfl
    have hs : decide (wrap64 (n : Int) < 0) = neg n := by
      rw [neg_iff hn]
      unfold wrap64
      exact decide_eq_decide.2 (by omega)
    rw [hz, hs]
    unfold key
    rw [f1, f2]
    have ht : 0 < top := by decide
    simp only [Bool.false_eq_true, if_false]
    cases neg n
    · simp only [Bool.not_false, Bool.false_eq_true, if_false, if_true]
      by_cases h2 : rung n = top
      · rw [if_pos h2, h2, decide_eq_true (by omega), if_pos rfl]
      · rw [if_neg h2, decide_eq_false (show ¬ ((top : Int) ≤ (rung n : Int)) by omega), decide_eq_false (show ¬ ((top : Int) ≤ -(rung n : Int)) by omega)]
        simp only [Bool.false_eq_true, if_false]
        by_cases h3 : rung n = 0
        · rw [if_pos h3, decide_eq_true (by omega)]; rfl
        · rw [if_neg h3, decide_eq_false (by omega)]; rfl
    · simp only [Bool.not_true, Bool.false_eq_true, if_false, if_true]
      by_cases h2 : rung n = top
      · rw [if_pos h2, h2, decide_eq_false (show ¬ ((top : Int) ≤ -(top : Int)) by omega), decide_eq_true (show ((top : Int) ≤ (top : Int)) by omega)]
        rfl
      · rw [if_neg h2, decide_eq_false (show ¬ ((top : Int) ≤ (rung n : Int)) by omega), decide_eq_false (show ¬ ((top : Int) ≤ -(rung n : Int)) by omega)]
        simp only [Bool.false_eq_true, if_false]
        by_cases h3 : rung n = 0
        · rw [if_pos h3, decide_eq_true (by omega)]; rfl
        · rw [if_neg h3, decide_eq_false (by omega)]; rfl
theorem refKind {n : Nat} (hn : n < 18446744073709551616) : offcutref04_Kind.f (n : Int) = some (kd n) := by
  unfold offcutref04_Kind.f kd
  have t1 : Int.tdiv (n : Int) 4503599627370496 = ((n / 4503599627370496 : Nat) : Int) := rfl
  have t2 : Int.tdiv (n : Int) 9223372036854775808 = ((n / 9223372036854775808 : Nat) : Int) := rfl
  have t3 : Int.tmod (n : Int) 4503599627370496 = ((n % 4503599627370496 : Nat) : Int) := rfl
  rw [t1, t2, t3, wrapU (n := ((n / 4503599627370496 : Nat) : Int)) (by omega) (by omega), wrapU (n := ((n / 9223372036854775808 : Nat) : Int)) (by omega) (by omega)]
  have t4 : Int.tmod ((n / 4503599627370496 : Nat) : Int) 2048 = ((n / 4503599627370496 % 2048 : Nat) : Int) := rfl
  rw [t4, wrap64_id (n := ((n / 9223372036854775808 : Nat) : Int)) (by omega) (by omega), wrap64_id (n := 3 + ((n / 9223372036854775808 : Nat) : Int)) (by omega) (by omega), neg_iff hn]
  unfold rung top
  by_cases c1 : 9223372036854775808 ≤ n
  · rw [decide_eq_true c1]
    repeat' split
    all_goals first | (congr 1; omega) | omega | simp_all <;> omega
  · rw [decide_eq_false c1]
    repeat' split
    all_goals first | (congr 1; omega) | omega | simp_all <;> omega
theorem wf_u64 {n0 : Int} (h : (Lit.int .u64 n0).wf = true) : ∃ n : Nat, n0 = (n : Int) ∧ n < 18446744073709551616 := by
  have a : IntKind.u64.min = 0 := by decide
  have b : IntKind.u64.max = 18446744073709551615 := by decide
  simp [Lit.wf, a, b] at h
  exact ⟨n0.toNat, by omega, by omega⟩
theorem EdgeKinds_t {n : Nat} (hn : n < 18446744073709551616) : Tl Try.prog 3 [.one (.val (.int .u64 (n : Int)))] (.el (.one (.val (.bool true)))) := by
  have K1 : Tl Try.prog 11 [.one (.val (.float .f64 (n : Int).toNat))] (.el (.one (.val (.int .i64 (kd n))))) := by
    have := kind_t (b := n)
    rw [kindR_eq hn] at this
    exact this
  have A : Ans (offcutref04_Kind.f (n : Int)) (kd n) := ⟨refKind hn⟩
  have W := awake_t
  exact ⟨Tells.goF Try.func3 Try.ntmps3⟩
theorem offcutlaw04_EdgeKinds.calls (n0 : Int) (w : World) (h : (Lit.int .u64 n0).wf = true) : Calls Try.prog 3 #[.int .u64 n0] w fun e w' => e = .returned (.bool true) ∧ Below w.heap.size w w' := by
  obtain ⟨n, rfl, hn⟩ := wf_u64 h
  exact law_calls (vs := [.int .u64 (n : Int)]) (ds := [.one (.val (.int .u64 (n : Int)))]) Try.func3 (EdgeKinds_t hn) rfl (args_cons ⟨rfl, rfl⟩ args_mk0)
end
section
open Lin Flo Ieee
/-- The word of a place in the order: no zero with a sign. -/
def wd (k : Int) : Nat := if k < 0 then 9223372036854775808 + k.natAbs else k.natAbs
def vk (k : Int) : Int := if k < 0 then -(vn k.natAbs : Int) else vn k.natAbs
def Dk (k : Int) (a : Rat) : Int := vk k * (a.den : Int) - a.num * ((2 ^ place : Nat) : Int)
structure InR (k : Int) : Prop where
  lo : -(top : Int) ≤ k
  hi : k ≤ top
theorem InR.abs {k : Int} (h : InR k) : k.natAbs < 9223372036854775808 := by
  have h1 := h.lo
  have h2 := h.hi
  unfold top at h1 h2
  omega
theorem wd_lt {k : Int} (h : InR k) : wd k < 18446744073709551616 := by
  have := h.abs
  unfold wd
  split <;> omega
theorem wd_rung {k : Int} (h : InR k) : rung (wd k) = k.natAbs := by
  have := h.abs
  unfold wd rung
  split <;> omega
theorem wd_neg {k : Int} (h : InR k) : neg (wd k) = decide (k < 0) := by
  rw [neg_iff (wd_lt h)]
  have := h.abs
  unfold wd
  exact decide_eq_decide.2 (by split <;> omega)
theorem wd_key {k : Int} (h : InR k) : key (wd k) = k := by
  unfold key
  rw [wd_rung h, wd_neg h]
  by_cases hk : k < 0
  · rw [decide_eq_true hk, if_pos rfl]; omega
  · rw [decide_eq_false hk, if_neg (by decide)]; omega
theorem wd_sv {k : Int} (h : InR k) : sv (wd k) = vk k := by
  unfold sv vk
  rw [wd_rung h, wd_neg h]
  by_cases hk : k < 0
  · rw [decide_eq_true hk, if_pos rfl, if_pos hk]
  · rw [decide_eq_false hk, if_neg (by decide), if_neg hk]
theorem wd_le {k : Int} (h : InR k) : rung (wd k) ≤ top := by
  rw [wd_rung h]
  have h1 := h.lo
  have h2 := h.hi
  omega
theorem wd_fin {k : Int} (h1 : -(top : Int) < k) (h2 : k < top) : rung (wd k) < top := by
  rw [wd_rung ⟨by omega, by omega⟩]
  omega
theorem D_wd {k : Int} (h : InR k) (a : Rat) : D (wd k) a = Dk k a := by unfold D Dk; rw [wd_sv h]
theorem wd_nat (r : Nat) : wd (r : Int) = r := by unfold wd; rw [if_neg (by omega)]; omega
theorem vk_nat (r : Nat) : vk (r : Int) = vn r := by unfold vk; rw [if_neg (by omega)]; rfl
theorem vk_neg (k : Int) : vk (-k) = -vk k := by
  unfold vk
  rw [Int.natAbs_neg]
  by_cases h : k = 0
  · subst h; rfl
  · by_cases h2 : k < 0
    · rw [if_neg (by omega), if_pos h2]; omega
    · rw [if_pos (by omega), if_neg h2]
theorem vk_lt {k j : Int} (h : k < j) : vk k < vk j := by
  unfold vk
  by_cases h1 : k < 0
  · rw [if_pos h1]
    by_cases h2 : j < 0
    · rw [if_pos h2]
      have : vn j.natAbs < vn k.natAbs := vn_lt (by omega)
      omega
    · rw [if_neg h2]
      have : vn 0 < vn k.natAbs := vn_lt (by omega)
      rw [vn_zero] at this
      omega
  · rw [if_neg h1, if_neg (by omega)]
    have : vn k.natAbs < vn j.natAbs := vn_lt (by omega)
    omega
theorem Dk_lt {k j : Int} (a : Rat) (h : k < j) : Dk k a < Dk j a := by
  unfold Dk
  have h2 : (0 : Int) < (a.den : Int) := by have := a.den_pos; omega
  have := Int.mul_lt_mul_of_pos_right (vk_lt h) h2
  omega
theorem Dk_le {k j : Int} (a : Rat) (h : k ≤ j) : Dk k a ≤ Dk j a := by
  rcases Int.lt_or_eq_of_le h with h | h
  · exact Int.le_of_lt (Dk_lt a h)
  · rw [h]; exact Int.le_refl _
theorem Dk_neg (k : Int) (a : Rat) : Dk (-k) (-a) = -Dk k a := by
  unfold Dk
  rw [vk_neg, Rat.neg_num, Rat.neg_den, Int.neg_mul, Int.neg_mul]
  omega
theorem Dk_nat (r : Nat) (a : Rat) (h : r < 9223372036854775808) : Dk (r : Int) a = D r a := by unfold D Dk; rw [sv_of h, vk_nat]
/-- The two on both sides. -/
structure Bt (a : Rat) (l h : Int) : Prop where
  l1 : -(top : Int) ≤ l
  l2 : l < top
  h1 : -(top : Int) < h
  h2 : h ≤ top
  cs : (l = h ∧ Dk l a = 0) ∨ (h = l + 1 ∧ (l = -(top : Int) ∨ Dk l a < 0) ∧ (h = top ∨ 0 < Dk h a))
theorem Bt.lin {a : Rat} {l h : Int} (B : Bt a l h) : InR l := ⟨B.l1, Int.le_of_lt B.l2⟩
theorem Bt.hin {a : Rat} {l h : Int} (B : Bt a l h) : InR h := ⟨Int.le_of_lt B.h1, B.h2⟩
/-- None above the lower one is not above. -/
theorem Bt.up {a : Rat} {l h k : Int} (B : Bt a l h) (hk : l < k) (hkt : k < top) : 0 < Dk k a := by
  rcases B.cs with ⟨e, e2⟩ | ⟨e, _, e2⟩
  · have := Dk_lt a hk; omega
  · rcases e2 with e2 | e2
    · omega
    · have := Dk_le a (show h ≤ k by omega); omega
theorem Bt.dn {a : Rat} {l h k : Int} (B : Bt a l h) (hk : k < h) (hkt : -(top : Int) < k) : Dk k a < 0 := by
  rcases B.cs with ⟨e, e2⟩ | ⟨e, e2, _⟩
  · have := Dk_lt a hk; rw [← e] at this; omega
  · rcases e2 with e2 | e2
    · omega
    · have := Dk_le a (show k ≤ l by omega); omega
theorem Bt.low {a : Rat} {l h : Int} (B : Bt a l h) : l = -(top : Int) ∨ Dk l a ≤ 0 := by
  rcases B.cs with ⟨_, e2⟩ | ⟨_, e2 | e2, _⟩
  · exact .inr (by omega)
  · exact .inl e2
  · exact .inr (by omega)
theorem Bt.uniq {a : Rat} {l h l' h' : Int} (B : Bt a l h) (C : Bt a l' h') : l = l' ∧ h = h' := by
  have key : ∀ {l h l' h' : Int}, Bt a l h → Bt a l' h' → ¬ l < l' := fun {l h l' h'} B C hlt => by
    have h1 := B.up hlt C.l2
    have := B.l1
    rcases C.low with e | e <;> omega
  have e1 : l = l' := by
    have := key B C
    have := key C B
    omega
  subst e1
  refine ⟨rfl, ?_⟩
  have b1 := B.h1
  have c1 := C.h1
  rcases B.cs with ⟨e, e2⟩ | ⟨e, e2, _⟩ <;> rcases C.cs with ⟨f, f2⟩ | ⟨f, f2, _⟩ <;> first | omega | (rcases e2 with e2 | e2 <;> omega) | (rcases f2 with f2 | f2 <;> omega)
theorem low_bt {a : Rat} {r : Nat} (hr : Low a r) : Bt a (r : Int) (Hi a r : Int) := by
  have hlt := hr.lt
  have hb := top_lt (Nat.le_of_lt hlt)
  have hle := hr.le
  have hz := Zn.sign_cases (D r a)
  unfold Hi
  by_cases hs : ((D r a).sign == 0) = true
  · rw [if_pos hs]
    have hs' : (D r a).sign = 0 := by simpa using hs
    exact ⟨by omega, by omega, by omega, by omega, .inl ⟨rfl, by rw [Dk_nat r a hb]; omega⟩⟩
  · rw [if_neg hs]
    have hs' : (D r a).sign ≠ 0 := by simpa using hs
    refine ⟨by omega, by omega, by omega, by omega, .inr ⟨by omega, .inr (by rw [Dk_nat r a hb]; omega), ?_⟩⟩
    rcases hr.up with e | e
    · exact .inl (by omega)
    · exact .inr (by rw [Dk_nat (r + 1) a (by unfold top at hlt; omega)]; exact e)
theorem Bt.turn {a : Rat} {l h : Int} (B : Bt (-a) l h) : Bt a (-h) (-l) := by
  have e : ∀ k, Dk (-k) a = -Dk k (-a) := fun k => by rw [← Dk_neg, Rat.neg_neg]
  have h1 := B.l1
  have h2 := B.l2
  have h3 := B.h1
  have h4 := B.h2
  refine ⟨by omega, by omega, by omega, by omega, ?_⟩
  rw [e, e]
  rcases B.cs with ⟨e, e2⟩ | ⟨e, e2, e3⟩
  · exact .inl ⟨by omega, by rw [← e]; omega⟩
  · refine .inr ⟨by omega, ?_, ?_⟩
    · rcases e3 with e3 | e3
      · exact .inl (by omega)
      · exact .inr (by omega)
    · rcases e2 with e2 | e2
      · exact .inl (by omega)
      · exact .inr (by omega)
theorem Bt.exists (a : Rat) : ∃ l h, Bt a l h := by
  by_cases h : 0 ≤ a.num
  · obtain ⟨r, hr⟩ := Low.exists h
    exact ⟨_, _, low_bt hr⟩
  · obtain ⟨r, hr⟩ := Low.exists (a := -a) (by rw [Rat.neg_num]; omega)
    exact ⟨_, _, (low_bt hr).turn⟩
theorem Between_t {m : Bool} {l1 l2 : List Int} {a : Rat} {J : Nat} {l h : Int} (ha : Qn.Is m l1 l2 a J) (hJ1 : 1 ≤ J) (hJ : J ≤ 10000) (B : Bt a l h) : Tl Try.prog 23 [.agg [.val (.bool m), .row l1, .row l2]] (.tup [.one (.val (.float .f64 (wd l))), .one (.val (.float .f64 (wd h)))]) := by
  by_cases h0 : 0 ≤ a.num
  · obtain ⟨r, hr⟩ := Low.exists h0
    obtain ⟨rfl, rfl⟩ := B.uniq (low_bt hr)
    rw [wd_nat, wd_nat]
    exact Btw_t ha hJ1 hJ h0 hr
  · obtain ⟨r, hr⟩ := Low.exists (a := -a) (by rw [Rat.neg_num]; omega)
    have C := low_bt hr
    obtain ⟨rfl, rfl⟩ := B.uniq C.turn
    have hz : Hi (-a) r ≠ 0 := fun e => by
      have e2 := C.cs
      rw [e] at e2
      rcases e2 with ⟨e3, e4⟩ | ⟨e3, _⟩
      · rw [e3] at e4
        have : Dk ((0 : Nat) : Int) (-a) = a.num * ((2 ^ place : Nat) : Int) := by
          unfold Dk
          rw [vk_nat, vn_zero, Rat.neg_num]
          simp [Int.neg_mul]
        rw [this] at e4
        rcases Int.mul_eq_zero.1 e4 with e5 | e5
        · omega
        · have := Nat.two_pow_pos place; omega
      · omega
    have e1 : wd (-(Hi (-a) r : Int)) = 9223372036854775808 + Hi (-a) r := by unfold wd; rw [if_pos (by omega)]; omega
    have e2 : wd (-(r : Int)) = if r = 0 then 0 else 9223372036854775808 + r := by
      unfold wd
      by_cases hr0 : r = 0
      · rw [if_pos hr0, if_neg (by omega)]; omega
      · rw [if_neg hr0, if_pos (by omega)]; omega
    rw [e1, e2]
    exact Btn_t ha hJ1 hJ (by omega) hr
theorem near_sign {l h : Int} (hl : InR l) (hh : InR h) (a : Rat) : ((a - fq (wd l)) - (fq (wd h) - a)).num.sign = (-(Dk l a + Dk h a)).sign := by
  have hp := Nat.ne_of_gt (Nat.two_pow_pos place)
  have E : 2 ^ place * a.den ≠ 0 := Nat.mul_ne_zero hp a.den_nz
  have e1 : fq (wd h) - a = mkRat (Dk h a) (2 ^ place * a.den) := by
    have := Qn.sub_mk (sv (wd h)) a.num hp a.den_nz
    rw [Rat.mkRat_self, wd_sv hh] at this
    unfold fq Dk
    rw [wd_sv hh]
    exact this
  have e2 : a - fq (wd l) = mkRat (-Dk l a) (2 ^ place * a.den) := by
    have := Qn.sub_mk a.num (sv (wd l)) a.den_nz hp
    rw [Rat.mkRat_self, wd_sv hl] at this
    unfold fq Dk
    rw [wd_sv hl, this, Nat.mul_comm a.den, Int.neg_sub]
  rw [e1, e2, Qn.sub_mk _ _ E E, Qn.sign_num _ _ (Nat.mul_ne_zero E E)]
  generalize 2 ^ place * a.den = e at *
  rw [show -Dk l a * (e : Int) - Dk h a * (e : Int) = -(Dk l a + Dk h a) * (e : Int) by rw [Int.neg_mul, Int.neg_mul, Int.add_mul]; omega, Int.sign_mul, Int.sign_eq_one_of_pos (a := (e : Int)) (by omega), Int.mul_one]
def near (a : Rat) (l h : Int) : Int := if 0 < Dk l a + Dk h a then l else if Dk l a + Dk h a = 0 then (if wd l % 2 = 0 then l else h) else h
theorem near_in (a : Rat) (l h : Int) : near a l h = l ∨ near a l h = h := by
  unfold near
  repeat' split
  all_goals simp
end
def nat_Add.l0 : Nat → List Int → List Int → List Int → Int → Int → Int → Option (List Int)
 | 0, _, _, _, _, _, _ => none
 | k + 1, x0, x1, x5, x6, x16, x17 => if x17 < x16 then ((nat_at.f x0 x17).bind fun t552 => ((nat_at.f x1 x17).bind fun t553 => (if 0 ≤ x17 then (if x17 < (x5.length : Int) then (nat_Add.l0 k x0 x1 (x5.set (x17 : Int).toNat ((IntKind.u64.wrap (x6 + (IntKind.u64.wrap (t552 + t553)))) % 4294967296)) ((IntKind.u64.wrap (x6 + (IntKind.u64.wrap (t552 + t553)))) / 4294967296) x16 (wrap64 (x17 + 1))) else (none)) else (none)))) else ((nat_trim.f k x5).bind fun t555 => (some t555))
def nat_Add.f (k : Nat) (l0 : List Int) (l1 : List Int) : Option (List Int) := if 0 ≤ (wrap64 ((mx (l0.length : Int) (l1.length : Int)) + 1)) then (if (wrap64 ((mx (l0.length : Int) (l1.length : Int)) + 1) : Int).toNat ≤ 70368744177664 then ((some (List.replicate (wrap64 ((mx (l0.length : Int) (l1.length : Int)) + 1) : Int).toNat 0 : List Int)).bind fun y549 => (nat_Add.l0 k l0 l1 y549 0 (y549.length : Int) 0)) else (none)) else (none)
set_option maxHeartbeats 8000000 in
set_option maxRecDepth 100000 in
theorem nat_Add.calls (k : Nat) (A0 : Option Addr) (c0 : Nat) (l0 : List Int) (A1 : Option Addr) (c1 : Nat) (l1 : List Int) (r : List Int) (w : World) (hr0 : Kd.C (Kd.int .u32) w A0 l0.length l0) (hc0 : l0.length ≤ c0) (hr1 : Kd.C (Kd.int .u32) w A1 l1.length l1) (hc1 : l1.length ≤ c1) (h : nat_Add.f k l0 l1 = some r) :
  Calls Try.prog 89 #[.slice A0 l0.length c0, .slice A1 l1.length c1] w fun e w' => ∃ v0_ : Value, e = .returned (v0_) ∧ Kd.R (Kd.int .u32) 92 w' w.heap.size (fun _ => True) v0_ r ∧ Below w.heap.size w w' := by
 have HR0 := Aside0.mk hr0
 have HC0 := Aside0.mk hc0
 clear hr0 hc0
 have HR1 := Aside0.mk hr1
 have HC1 := Aside0.mk hc1
 clear hr1 hc1
 have HB := Aside0.mk (Below.refl w.heap.size w)
 have H : (if 0 ≤ (wrap64 ((mx (l0.length : Int) (l1.length : Int)) + 1)) then (if (wrap64 ((mx (l0.length : Int) (l1.length : Int)) + 1) : Int).toNat ≤ 70368744177664 then ((some (List.replicate (wrap64 ((mx (l0.length : Int) (l1.length : Int)) + 1) : Int).toNat 0 : List Int)).bind fun y549 => (nat_Add.l0 k l0 l1 y549 0 (y549.length : Int) 0)) else (none)) else (none)) = some r := h
 clear h
 obtain ⟨ji3, hji3⟩ : ∃ j_ : Int, (mx (l0.length : Int) (l1.length : Int)) = j_ := ⟨_, rfl⟩
 replace H : (if 0 ≤ (wrap64 ((ji3) + 1)) then (if (wrap64 ((ji3) + 1) : Int).toNat ≤ 70368744177664 then ((some (List.replicate (wrap64 ((ji3) + 1) : Int).toNat 0 : List Int)).bind fun y549 => (nat_Add.l0 k l0 l1 y549 0 (y549.length : Int) 0)) else (none)) else (none)) = some r := by first | (rw [hji3] at H; exact H) | (simp only [hji3] at H ⊢; exact H)
 (try (have hji3l : 0 ≤ ji3 := by (rw [← hji3]; unfold mx; (repeat' split) <;> omega)))
 (try (have hji3m : 0 ≤ ji3 := by omega))
 have hji3_ : (if (l0.length : Int) < (l1.length : Int) then (l1.length : Int) else (l0.length : Int)) = ji3 := hji3
 have hji3n : (if l0.length < l1.length then (l1.length : Int) else (l0.length : Int)) = ji3 := by rw [← hji3]; unfold mx; (repeat' split) <;> omega
 obtain ⟨ji4, hji4⟩ : ∃ j_ : Int, (wrap64 ((ji3) + 1)) = j_ := ⟨_, rfl⟩
 replace H : (if 0 ≤ (ji4) then (if (ji4 : Int).toNat ≤ 70368744177664 then ((some (List.replicate (ji4 : Int).toNat 0 : List Int)).bind fun y549 => (nat_Add.l0 k l0 l1 y549 0 (y549.length : Int) 0)) else (none)) else (none)) = some r := by first | (rw [hji4] at H; exact H) | (simp only [hji4] at H ⊢; exact H)
 have hji4w : (IntKind.i64.wrap ((ji3) + 1)) = ji4 := (i64_w _).trans hji4
 by_cases c5 : 0 ≤ (ji4)
 ·rw [if_pos c5] at H
  have c5b0 := eq_true c5
  have c5b1 : decide (0 ≤ (ji4)) = true := decide_eq_true c5
  clear c5
  by_cases c6 : (ji4 : Int).toNat ≤ 70368744177664
  ·rw [if_pos c6] at H
   have c6b0 := eq_true c6
   have c6b1 : decide ((ji4 : Int).toNat ≤ 70368744177664) = true := decide_eq_true c6
   clear c6
   obtain ⟨y549, hy549⟩ : ∃ y_ : List Int, y_ = (List.replicate (ji4 : Int).toNat 0) := ⟨_, rfl⟩
   replace H : (nat_Add.l0 k l0 l1 y549 0 (y549.length : Int) 0) = some r := by first | (rw [hy549]; with_reducible exact H) | (have H2_ := (Option.bind_some _ _).symm.trans H; rw [hy549]; with_reducible exact H2_) | (have H2_ := (Option.bind_some _ _).symm.trans H; with_reducible exact H2_) | with_reducible exact H | (rw [hy549]; exact H) | exact H
   have Ny549 := Aside0.mk hy549
   clear hy549
   have H' := Aside0.mk H
   clear H
   go_enter Try.func89, Try.ntmps89
   go_wp2_with (first | ((with_reducible refine gate_dst (N := 14) rfl ?_); refine Kd.R_make (Kd.int .u32) _ 92 rfl (N := 14) rfl 30 _ _ rfl ji4 rfl rfl Try.underlying30 (.int .u32 0) 4 info92 rfl (by decide) (by omega) 0 (ok := fun _ => True) (okp := fun _ => True) rfl (fun _ hk => hk) trivial (of_decide_eq_true (by first | (with_reducible assumption) | assumption)) (Nat.le_trans (Nat.mul_le_mul_right _ (of_decide_eq_true (by first | (with_reducible assumption) | assumption) : ji4.toNat ≤ 70368744177664)) (by omega)) (Below.refl _ _) (Nat.le_refl _) ?_; intro v550 w7 ho8 hb hg_ hnew_; clear hg_ hnew_; (first | rw [← Ny549.out] at ho8 | (simp only [Int.reduceToNat] at ho8; rw [← Ny549.out] at ho8)); have HO551 := Aside0.mk (Kd.R_lower ho8 (below_size (by repeat (first | (with_reducible first | exact HB.out | apply below_alloc | apply pw_below_drewN | apply below_drew1) | exact HB.out)))); replace HB := Aside0.mk (below_step (by repeat (first | (with_reducible first | exact HB.out | apply below_alloc | apply pw_below_drewN | apply below_drew1) | exact HB.out)) hb); clear hb ho8; obtain ⟨Ao9, co9, eo9⟩ := Kd.R_slice HO551.out; subst eo9))
   go_loopg [6, 17] k (fun kq v6 v17 w' => ∃ (x5_1 : List Int) (x6_1 : Int) (x17_1 : Int), v6 = .int .u64 x6_1 ∧ v17 = .int .i64 x17_1 ∧ Aside0 (nat_Add.l0 kq l0 l1 x5_1 x6_1 (y549.length : Int) x17_1 = some r) ∧ Aside0 (kq ≤ k) ∧ Aside0 (Kd.R (Kd.int .u32) 92 w' w.heap.size (fun _ => True) (.slice Ao9 y549.length co9) x5_1) ∧ Aside0 (Below w.heap.size w w'))
   case atStart => exact ⟨(y549), (0), (0), (by first | rfl | (simp; done) | (simp [*]; done)), (by first | rfl | (simp; done) | (simp [*]; done)), H', ⟨Nat.le_refl _⟩, ⟨by (with_reducible repeat (first | apply Kd.R_alloc | apply Kd.R_drewN | apply Kd.R_drew)); exact HO551.out⟩, ⟨by repeat (first | (with_reducible first | exact HB.out | apply below_alloc | apply pw_below_drewN | apply below_drew1) | exact HB.out)⟩⟩
   case round =>
    clear H'
    try clear c1
    try clear p2
    try clear c5
    try clear c5b0
    try clear c5b1
    try clear c6
    try clear c6b0
    try clear c6b1
    try clear p6
    try clear c8
    obtain ⟨x5_1, x6_1, x17_1, rfl, rfl, HA, HK1, HO_5, HB⟩ := hrel
    have hl5_1 := (Kd.R_reads' HO_5.out).1
    rw [hl5_1] at HO_5
    (try simp only [hl5_1])
    cases gk with
    | zero => exact absurd HA.out (by simp [nat_Add.l0])
    | succ k1 =>
     have H := HA.out
     clear HA
     simp only [nat_Add.l0] at H
     by_cases c10 : x17_1 < (y549.length : Int)
     ·rw [if_pos c10] at H
      have c10b0 : decide (x17_1 < (y549.length : Int)) = true := decide_eq_true c10
      (try (have c10z0 : decide (x17_1 < (x5_1.length : Int)) = true := by rw [← hl5_1]; exact c10b0))
      clear c10
      replace H := Option.bind_eq_some_iff.mp H
      obtain ⟨t552, A110, H⟩ := H
      try dsimp only at H
      have A11 := Aside0.mk A110
      clear A110
      replace H := Option.bind_eq_some_iff.mp H
      obtain ⟨t553, A120, H⟩ := H
      try dsimp only at H
      have A12 := Aside0.mk A120
      clear A120
      by_cases c13 : 0 ≤ x17_1
      ·rw [if_pos c13] at H
       have c13b0 : decide (0 ≤ x17_1) = true := decide_eq_true c13
       clear c13
       by_cases c14 : x17_1 < (x5_1.length : Int)
       ·rw [if_pos c14] at H
        have c14b0 : decide (x17_1 < (x5_1.length : Int)) = true := decide_eq_true c14
        clear c14
        obtain ⟨y554, hy554⟩ : ∃ y_ : List Int, y_ = (x5_1.set (x17_1 : Int).toNat ((IntKind.u64.wrap (x6_1 + (IntKind.u64.wrap (t552 + t553)))) % 4294967296)) := ⟨_, rfl⟩
        replace H : (nat_Add.l0 k1 l0 l1 y554 ((IntKind.u64.wrap (x6_1 + (IntKind.u64.wrap (t552 + t553)))) / 4294967296) (y549.length : Int) (wrap64 (x17_1 + 1))) = some r := by first | (rw [hy554]; with_reducible exact H) | (have H2_ := (Option.bind_some _ _).symm.trans H; rw [hy554]; with_reducible exact H2_) | (have H2_ := (Option.bind_some _ _).symm.trans H; with_reducible exact H2_) | with_reducible exact H | (rw [hy554]; exact H) | exact H
        have Ny554 := Aside0.mk hy554
        clear hy554
        have H' := Aside0.mk H
        clear H
        go_wp2_with (first | ((with_reducible refine gate_callee (f := 102) rfl ?_); refine Short.goesS_ (some 23) Try.func102 #[.slice A0 l0.length c0, .int .i64 x17_1] ?_; (with_reducible refine (nat_at.calls _ _ l0 x17_1 t552 _ (Kd.C_below HR0.out HB.out) HC0.out A11.out).mono ?_); rintro e w' ⟨rfl, ⟨nd, rfl⟩⟩; refine ⟨_, rfl, ?_⟩; (try (rw [drewN_self wr]; generalize hq_ : World.drewN wr _ = wr; have n0_ : Aside0 (Kd.R (Kd.int .u32) 92 wr w.heap.size (fun _ => True) (.slice Ao9 x5_1.length co9) x5_1) := ⟨by rw [← hq_]; exact HO_5.out⟩; have n1_ : Aside0 (Below w.heap.size w wr) := ⟨by rw [← hq_]; exact (by repeat (first | (with_reducible first | exact HB.out | apply below_alloc | apply pw_below_drewN | apply below_drew1) | exact HB.out))⟩; clear HO_5 HB hq_; have HO_5 := n0_; have HB := n1_; clear n0_ n1_))) | ((with_reducible refine gate_callee (f := 102) rfl ?_); refine Short.goesS_ (some 26) Try.func102 #[.slice A1 l1.length c1, .int .i64 x17_1] ?_; (with_reducible refine (nat_at.calls _ _ l1 x17_1 t553 _ (Kd.C_below HR1.out HB.out) HC1.out A12.out).mono ?_); rintro e w' ⟨rfl, ⟨nd, rfl⟩⟩; refine ⟨_, rfl, ?_⟩; (try (rw [drewN_self wr]; generalize hq_ : World.drewN wr _ = wr; have n0_ : Aside0 (Kd.R (Kd.int .u32) 92 wr w.heap.size (fun _ => True) (.slice Ao9 x5_1.length co9) x5_1) := ⟨by rw [← hq_]; exact HO_5.out⟩; have n1_ : Aside0 (Below w.heap.size w wr) := ⟨by rw [← hq_]; exact (by repeat (first | (with_reducible first | exact HB.out | apply below_alloc | apply pw_below_drewN | apply below_drew1) | exact HB.out))⟩; clear HO_5 HB hq_; have HO_5 := n0_; have HB := n1_; clear n0_ n1_)); have p15 : 0 ≤ (x17_1 : Int) := of_decide_eq_true (by first | (with_reducible assumption) | assumption); have q15 : (x17_1 : Int) < ((x5_1.length : Int) : Int) := of_decide_eq_true (by first | (with_reducible assumption) | assumption); obtain ⟨go15, co15, eo15, gb15, gl15, cl15, HG15⟩ := Kd.R_form HO_5.out (by omega); (first | cases eo15 | (injection eo15 with ea_ en_ ec_; (first | subst ea_ | (injection ea_ with ea_; subst ea_)); subst ec_; clear en_)); have GB15 := Aside0.mk gb15; have GG15 := Aside0.mk HG15; clear gb15 gl15 HG15; obtain ⟨hx15_0, hf15_0⟩ := Kd.R_celln 0 HO_5.out (x17_1 : Int) p15 q15; replace p15 := eq_true p15; replace q15 := eq_true q15; obtain ⟨hy16_, hz16_⟩ := Kd.R_celln 0 HO_5.out (x17_1 : Int) (of_decide_eq_true (by first | (with_reducible assumption) | assumption)) (of_decide_eq_true (by first | (with_reducible assumption) | assumption)); have HP16 := Kd.R_putg HO_5.out (x17_1 : Int) ((IntKind.u64.wrap (x6_1 + (IntKind.u64.wrap (t552 + t553)))) % 4294967296)) | ((with_reducible refine gate_store (t := 92) (p := 33) rfl ?_); refine store_event (t := 92) (p := 33) (v := ?vo_w17) (w1 := (wr.setCell ⟨go15, (x17_1 : Int).toNat, none⟩ (.int .u32 ((IntKind.u64.wrap (x6_1 + (IntKind.u64.wrap (t552 + t553)))) % 4294967296)))) ?hg ?ho ?hn ?hr ?_; (case ho => rfl); (case hg => rfl); (case hn => rfl); (case hr => first | (go_simp; done) | (go_simp; rfl)); intro w17 hw; have hg : wr.grownBy w17 (some go15) := (by rw [hw]; exact HP16.2); have hp_ : Kd.R (Kd.int .u32) 92 w17 w.heap.size (fun _ => True) (.slice (some ⟨go15, 0, none⟩) x5_1.length co9) y554 := (by rw [hw, Ny554.out]; exact HP16.1); clear HP16; replace HO_5 := Aside0.mk (hp_); replace HB := Aside0.mk ((by rw [hw]; exact below_set (HB.out) GB15.out : Below w.heap.size w w17)); clear hg hw hp_))
        (try simp only [← hl5_1])
        go_roundg k1
        case measure => have := HK1.out; omega
        case rel => exact ⟨(y554), ((IntKind.u64.wrap (x6_1 + (IntKind.u64.wrap (t552 + t553)))) / 4294967296), (wrap64 (x17_1 + 1)), (by first | rfl | (simp; done) | (simp [*]; done)), (by first | rfl | (simp; done) | (simp [*]; done)), H', ⟨by have := HK1.out; omega⟩, ⟨by (try simp only [hl5_1]); (with_reducible repeat (first | apply Kd.R_alloc | apply Kd.R_drewN | apply Kd.R_drew)); exact HO_5.out⟩, ⟨by repeat (first | (with_reducible first | exact HB.out | apply below_alloc | apply pw_below_drewN | apply below_drew1) | exact HB.out)⟩⟩
       ·rw [if_neg c14] at H
        exact absurd H (by simp)
      ·rw [if_neg c13] at H
       exact absurd H (by simp)
     ·rw [if_neg c10] at H
      have c10b0 : decide (x17_1 < (y549.length : Int)) = false := decide_eq_false c10
      (try (have c10z0 : decide (x17_1 < (x5_1.length : Int)) = false := by rw [← hl5_1]; exact c10b0))
      clear c10
      replace H := Option.bind_eq_some_iff.mp H
      obtain ⟨t555, A180, H⟩ := H
      replace H : (some t555) = some r := H
      have A18 := Aside0.mk A180
      clear A180
      obtain rfl := Option.some.inj H
      go_wp2_with (first | ((with_reducible refine gate_callee (f := 71) rfl ?_); refine Short.goesS_ (some 38) Try.func71 #[.slice Ao9 x5_1.length co9] ?_; (with_reducible refine (nat_trim.calls k1 _ _ x5_1 t555 _ ((Kd.R_reads' HO_5.out).2.2) ((Kd.R_reads' HO_5.out).2.1) A18.out).mono ?_); rintro e w19 ⟨v556, rfl, ho0, hb⟩; refine ⟨_, rfl, ?_⟩; have HO557 := Aside0.mk (Kd.R_lower (Kd.R_new' ho0 (Kd.R_lt HO_5.out)) (below_size (by repeat (first | (with_reducible first | exact HB.out | apply below_alloc | apply pw_below_drewN | apply below_drew1) | exact HB.out)))); replace HO_5 := Aside0.mk (Kd.R_elder' HO_5.out (Kd.R_base ho0) hb); replace HB := Aside0.mk (below_step (by repeat (first | (with_reducible first | exact HB.out | apply below_alloc | apply pw_below_drewN | apply below_drew1) | exact HB.out)) hb); (try clear hb); (try clear ho0)))
      go_ret
      exact ⟨_, by first | rfl | (simp [errW_none, errW_some] <;> rfl) | (simp only [← hji3, ← hji4]; first | rfl | (simp [errW_none, errW_some] <;> rfl)) | (simp [*, errW_none, errW_some] <;> rfl), by (with_reducible repeat (first | apply Kd.R_alloc | apply Kd.R_drewN | apply Kd.R_drew)); exact Kd.R_mono HO557.out (fun _ hk => trivial), by repeat (first | (with_reducible first | exact HB.out | apply below_alloc | apply pw_below_drewN | apply below_drew1) | exact HB.out)⟩
  ·rw [if_neg c6] at H
   exact absurd H (by simp)
 ·rw [if_neg c5] at H
  exact absurd H (by simp)

theorem nat_Add.ev_l {a b : List Int} (ha : Num.Ws a) (hb : Num.Ws b) {L : Nat} (hLa : a.length < L) (hLb : b.length < L) (hL : L < 35184372088832) (d : Nat) : ∀ (i : Nat) (x : List Int) (c : Nat), i + d = L → x.length = L → Num.Ws x → c ≤ 1 →
  Num.nv (x.take i) + 2 ^ (32 * i) * c = Num.nv (a.take i) + Num.nv (b.take i) → Ev (fun k => nat_Add.l0 k a b x (c : Int) (L : Int) (i : Int)) (Num.nd (Num.nv a + Num.nv b)) := by
 induction d with
 | zero =>
  intro i x c hi hx hW hc hv
  obtain rfl : i = L := by omega
  rw [List.take_of_length_le (by omega), List.take_of_length_le (by omega), List.take_of_length_le (by omega)] at hv
  have hva := Num.nv_lt ha
  have hvb := Num.nv_lt hb
  have hP : 2 ^ (32 * a.length) * 2 ≤ 2 ^ (32 * i) := by
   rw [← Nat.pow_succ]
   exact Nat.pow_le_pow_right (by omega) (by omega)
  have hQ : 2 ^ (32 * b.length) * 2 ≤ 2 ^ (32 * i) := by
   rw [← Nat.pow_succ]
   exact Nat.pow_le_pow_right (by omega) (by omega)
  obtain rfl : c = 0 := by
   rcases Nat.eq_zero_or_pos c with h | h
   ·exact h
   ·obtain rfl : c = 1 := by omega
    omega
  have hv2 : Num.nv x = Num.nv a + Num.nv b := by omega
  refine Ev.step (f := fun k => (nat_trim.f k x).bind fun t => some t) (fun k => ?_) ?_
  ·simp only [nat_Add.l0]
   rw [if_neg (by omega)]
  ·rw [← hv2]
   exact Ev.bind (nat_trim.ev hW (by omega)) (Ev.now _)
 | succ d ih =>
  intro i x c hi hx hW hc hv
  have hga := ha.getD i
  have hgb := hb.getD i
  obtain ⟨p, hp⟩ : ∃ p : Nat, (p : Int) = a.getD i 0 := ⟨(a.getD i 0).toNat, by omega⟩
  obtain ⟨q, hq⟩ : ∃ q : Nat, (q : Int) = b.getD i 0 := ⟨(b.getD i 0).toNat, by omega⟩
  have c1 : (i : Int) < (L : Int) := by omega
  have c2 : 0 ≤ (i : Int) := by omega
  have c3 : (i : Int) < (x.length : Int) := by omega
  refine Ev.step (f := fun k => nat_Add.l0 k a b (x.set i (((c + p + q) % 4294967296 : Nat) : Int)) (((c + p + q) / 4294967296 : Nat) : Int) (L : Int) ((i + 1 : Nat) : Int)) (fun k => ?_) ?_
  ·have e1 : IntKind.u64.wrap ((p : Int) + (q : Int)) = (p : Int) + (q : Int) := nat_trim.u64w (by omega) (by omega)
   have e2 : IntKind.u64.wrap ((c : Int) + ((p : Int) + (q : Int))) = ((c + p + q : Nat) : Int) := by rw [nat_trim.u64w (by omega) (by omega)]; omega
   have e3 : ((c + p + q : Nat) : Int) % 4294967296 = (((c + p + q) % 4294967296 : Nat) : Int) := by omega
   have e4 : ((c + p + q : Nat) : Int) / 4294967296 = (((c + p + q) / 4294967296 : Nat) : Int) := by omega
   have e5 : wrap64 ((i : Int) + 1) = ((i + 1 : Nat) : Int) := by rw [nat_trim.w64 (by omega) (by omega)]; omega
   simp only [nat_Add.l0]
   rw [if_pos c1, nat_at.sem ha, nat_at.sem hb]
   simp only [Option.bind_some]
   rw [if_pos c2, if_pos c3, ← hp, ← hq, e1, e2, e3, e4, e5]
   simp only [Int.toNat_natCast]
  ·refine ih (i + 1) _ _ (by omega) (by rw [List.length_set]; exact hx) (hW.set i (by omega) (by omega)) (by omega) ?_
   rw [Num.nv_set_take (by omega), Num.nv_take_succ, Num.nv_take_succ, Num.pow_succ32, Int.toNat_natCast, ← hp, ← hq, Int.toNat_natCast, Int.toNat_natCast]
   have := Num.split_mul (2 ^ (32 * i)) (c + p + q)
   have h2 : 2 ^ (32 * i) * (c + p + q) = 2 ^ (32 * i) * c + 2 ^ (32 * i) * p + 2 ^ (32 * i) * q := by rw [Nat.mul_add, Nat.mul_add]
   omega
theorem nat_Add.ev {a b : List Int} (ha : Num.okw a = true) (hb : Num.okw b = true) : Ev (fun k => nat_Add.f k a b) (Num.nd (Num.nv a + Num.nv b)) := by
 obtain ⟨la, wa⟩ := (Num.okw_iff a).1 ha
 obtain ⟨lb, wb⟩ := (Num.okw_iff b).1 hb
 obtain ⟨L, hL⟩ : ∃ L : Nat, wrap64 (mx (a.length : Int) (b.length : Int) + 1) = (L : Int) ∧ a.length < L ∧ b.length < L ∧ L ≤ 1099511627776 := by
  refine ⟨max a.length b.length + 1, ?_, by omega, by omega, by omega⟩
  rw [nat_trim.w64 (by unfold mx; split <;> omega) (by unfold mx; split <;> omega)]
  unfold mx
  split <;> omega
 obtain ⟨hL, h1, h2, h3⟩ := hL
 have := nat_Add.ev_l wa wb h1 h2 (by omega) L 0 (List.replicate L 0) 0 (by omega) (by simp) (Num.Ws.replicate _) (by omega) (by simp [Num.nv])
 unfold nat_Add.f
 rw [hL]
 refine Ev.congr (fun k => ?_) this
 rw [if_pos (show (0 : Int) ≤ (L : Int) from by omega), Int.toNat_natCast, if_pos (show L ≤ 70368744177664 from by omega)]
 simp only [Option.bind_some, List.length_replicate]
 rfl
set_option synthInstance.checkSynthOrder false in
open Lin in
instance nat_Add.t {k : Nat} {l0 : List Int} {l1 : List Int} {r : List Int} [h : Ans (nat_Add.f k l0 l1) r] : Tl Try.prog 89 [.one (.row l0), .one (.row l1)] (.el (.one (.row r))) := ⟨Tells.of Try.func89 fun out w vs ho hl hv => by
 obtain ⟨u0, u1, rfl, h0, h1⟩ := args2 hl hv
 obtain ⟨A0, c0, rfl, hc0, hr0, hb0⟩ := h0
 obtain ⟨A1, c1, rfl, hc1, hr1, hb1⟩ := h1
 refine (nat_Add.calls k A0 c0 l0 A1 c1 l1 _ w hr0 hc0 hr1 hc1 h.out).mono ?_
 rintro e w' ⟨v0_, rfl, gv0_, hb⟩
 exact ⟨_, rfl, row_R gv0_ ho, hb⟩⟩
def whole_Add.f (k : Nat) (a0_0 : Bool) (l0_1 : List Int) (a1_0 : Bool) (l1_1 : List Int) : Option (Bool × List Int) := (whole_Sign.f k a0_0 l0_1).bind fun t561 => ((whole_Sign.f k a1_0 l1_1).bind fun t562 => (if ((decide (t561 < 0)) == (decide (t562 < 0))) = true then ((whole_Sign.f k a0_0 l0_1).bind fun t563 => ((nat_Add.f k l0_1 l1_1).bind fun t564 => ((whole_Make.f k (decide (t563 < 0)) t564).bind fun bt567 => (some (bt567.1, bt567.2))))) else ((nat_Sub.f k l0_1 l1_1).bind fun bt571 => (if bt571.2 = true then ((whole_Sign.f k a0_0 l0_1).bind fun t575 => ((whole_Make.f k (decide (t575 < 0)) bt571.1).bind fun bt576 => (some (bt576.1, bt576.2)))) else ((nat_Sub.f k l1_1 l0_1).bind fun bt580 => ((whole_Sign.f k a1_0 l1_1).bind fun t584 => ((whole_Make.f k (decide (t584 < 0)) bt580.1).bind fun bt585 => (some (bt585.1, bt585.2)))))))))
theorem whole_Add.ev {m m' : Bool} {l l' : List Int} {a b : Int} {K : Nat} (ha : Zn.Is m l a K) (hb : Zn.Is m' l' b K) (hK : K < 900000) : Ev (fun k => whole_Add.f k m l m' l') (Zn.zd (a + b)) := by
 have oa := ha.ok (by omega)
 have ob := hb.ok (by omega)
 have la := ha.lt
 have lb := hb.lt
 unfold whole_Add.f
 refine Ev.bind (whole_Sign.ev ha (by omega)) (Ev.bind (whole_Sign.ev hb (by omega)) ?_)
 have da : decide (a.sign < 0) = decide (a < 0) := decide_eq_decide.2 (Zn.sign_lt a)
 have db : decide (b.sign < 0) = decide (b < 0) := decide_eq_decide.2 (Zn.sign_lt b)
 have A := nat_Add.ev oa ob
 have S1 := nat_Sub.ev oa ob
 have S2 := nat_Sub.ev ob oa
 rw [← ha.abs, ← hb.abs] at A S1 S2
 by_cases h : a < 0 ↔ b < 0
 ·refine Dec.yes (by rw [da, db, beq_iff_eq]; exact decide_eq_decide.2 h) (Ev.bind (whole_Sign.ev ha (by omega)) (Ev.bind A ?_))
  have M := whole_Make.ev (Zn.Is.nd (m := decide (a.sign < 0)) (Num.add_lt la lb)) (by omega)
  rw [da, Zn.add_same h] at M
  refine Ev.congr (fun k => ?_) (Ev.bind M (Ev.now _))
  rw [da]
 ·refine Dec.no (by rw [da, db, beq_iff_eq]; exact fun e => h (decide_eq_decide.1 e)) ?_
  by_cases hl : a.natAbs < b.natAbs
  ·rw [if_pos hl] at S1
   rw [if_neg (by omega)] at S2
   refine Ev.bind S1 (Dec.no (by decide) (Ev.bind S2 (Ev.bind (whole_Sign.ev hb (by omega)) ?_)))
   have M := whole_Make.ev (Zn.Is.nd (K := K) (n := b.natAbs - a.natAbs) (m := decide (b.sign < 0)) (by omega)) (by omega)
   rw [db, Zn.add_right h hl] at M
   refine Ev.congr (fun k => ?_) (Ev.bind M (Ev.now _))
   rw [db]
  ·rw [if_neg hl] at S1
   refine Ev.bind S1 (Dec.yes rfl (Ev.bind (whole_Sign.ev ha (by omega)) ?_))
   have M := whole_Make.ev (Zn.Is.nd (K := K) (n := a.natAbs - b.natAbs) (m := decide (a.sign < 0)) (by omega)) (by omega)
   rw [da, Zn.add_left h (by omega)] at M
   refine Ev.congr (fun k => ?_) (Ev.bind M (Ev.now _))
   rw [da]
set_option synthInstance.checkSynthOrder false in
open Lin in
set_option maxHeartbeats 4000000 in
instance whole_Add.t {k : Nat} {a0_0 : Bool} {l0_1 : List Int} {a1_0 : Bool} {l1_1 : List Int} {r : Bool × List Int} [h : Ans (whole_Add.f k a0_0 l0_1 a1_0 l1_1) r] : Tl Try.prog 61 [.agg [.val (.bool a0_0), .row l0_1], .agg [.val (.bool a1_0), .row l1_1]] (.el (.agg [.val (.bool r.1), .row r.2])) := by
 have h := h.out
 unfold whole_Add.f at h
 repeat' (first | (replace h := Lin.bndK h) | (replace h := Lin.bnd h; obtain ⟨_, _, h⟩ := h) | split at h | cases h)
 all_goals exact ⟨Tells.go Try.func61 Try.ntmps61⟩
def rat_Add.f (k : Nat) (a0_0 : Bool) (l0_1 : List Int) (l0_2 : List Int) (a1_0 : Bool) (l1_1 : List Int) (l1_2 : List Int) : Option (Bool × List Int × List Int) := (rat_over.f k a0_0 l0_1 l0_2 a1_0 l1_1 l1_2).bind fun bt592 => ((rat_over.f k a1_0 l1_1 l1_2 a0_0 l0_1 l0_2).bind fun bt596 => ((whole_Add.f k bt592.1 bt592.2 bt596.1 bt596.2).bind fun bt600 => ((rat_den.f k a0_0 l0_1 l0_2).bind fun t604 => ((rat_den.f k a1_0 l1_1 l1_2).bind fun t607 => ((nat_Mul.f k t604 t607).bind fun t610 => ((rat_Make.f k bt600.1 bt600.2 t610).bind fun bt613 => (some (bt613.1, bt613.2.1, bt613.2.2))))))))
theorem rat_Add.ev {m m' : Bool} {l1 l2 k1 k2 : List Int} {a b : Rat} {K J : Nat} (ha : Qn.Is m l1 l2 a K) (hb : Qn.Is m' k1 k2 b J) (hK1 : 1 ≤ K) (hJ1 : 1 ≤ J) (hK : K + J < 300000) : Ev (fun k => rat_Add.f k m l1 l2 m' k1 k2) (Qn.qd (a + b)) := by
 have da := Qn.dn_lt ha.ws ha.len hK1
 have db := Qn.dn_lt hb.ws hb.len hJ1
 have la := ha.len
 have lb := hb.len
 have La := Qn.len_dl la hK1
 have Lb := Qn.len_dl lb hJ1
 have P := nat_Mul.ev (Num.okw_of (l := Qn.dl l2) (by omega) (Qn.ws_dl ha.ws)) (Num.okw_of (l := Qn.dl k2) (by omega) (Qn.ws_dl hb.ws))
 rw [Qn.nv_dl, Qn.nv_dl] at P
 have x1 := Zn.abs_mul ha.num.lt (Qn.cast_abs db)
 have x2 := Zn.abs_mul hb.num.lt (Qn.cast_abs da)
 rw [Nat.add_comm J K] at x2
 have A := whole_Add.ev (Zn.Is.zd x1) (Zn.Is.zd x2) (by omega)
 have M := rat_Make.ev (Zn.Is.zd (Zn.abs_add x1 x2)) (Num.Ws_nd (Qn.dn (Num.nv l2) * Qn.dn (Num.nv k2))) (Num.nd_length_le (Num.le_pow (Num.mul_lt da db) (by omega))) (by omega) (by omega)
 rw [Num.nv_nd, Qn.dn_self (Nat.mul_ne_zero (Qn.dn_ne _) (Qn.dn_ne _)), ← Rat.mkRat_add_mkRat _ _ (Qn.dn_ne _) (Qn.dn_ne _), ha.val, hb.val] at M
 unfold rat_Add.f
 exact Ev.bind (rat_over.ev ha hb hJ1 (by omega)) (Ev.bind (rat_over.ev hb ha hK1 (by omega)) (Ev.bind A (Ev.bind (rat_den.ev ha.ws (by omega)) (Ev.bind (rat_den.ev hb.ws (by omega)) (Ev.bind P (Ev.bind M (Ev.now _)))))))
set_option synthInstance.checkSynthOrder false in
open Lin in
set_option maxHeartbeats 4000000 in
instance rat_Add.t {k : Nat} {a0_0 : Bool} {l0_1 : List Int} {l0_2 : List Int} {a1_0 : Bool} {l1_1 : List Int} {l1_2 : List Int} {r : Bool × List Int × List Int} [h : Ans (rat_Add.f k a0_0 l0_1 l0_2 a1_0 l1_1 l1_2) r] : Tl Try.prog 32 [.agg [.val (.bool a0_0), .row l0_1, .row l0_2], .agg [.val (.bool a1_0), .row l1_1, .row l1_2]] (.el (.agg [.val (.bool r.1), .row r.2.1, .row r.2.2])) := by
 have h := h.out
 unfold rat_Add.f at h
 repeat' (first | (replace h := Lin.bndK h) | (replace h := Lin.bnd h; obtain ⟨_, _, h⟩ := h) | split at h | cases h)
 all_goals exact ⟨Tells.go Try.func32 Try.ntmps32⟩
def rat_Sub.f (k : Nat) (a0_0 : Bool) (l0_1 : List Int) (l0_2 : List Int) (a1_0 : Bool) (l1_1 : List Int) (l1_2 : List Int) : Option (Bool × List Int × List Int) := (rat_Neg.f k a1_0 l1_1 l1_2).bind fun bt623 => ((rat_Add.f k a0_0 l0_1 l0_2 bt623.1 bt623.2.1 bt623.2.2).bind fun bt630 => (some (bt630.1, bt630.2.1, bt630.2.2)))
theorem rat_Sub.ev {m m' : Bool} {l1 l2 k1 k2 : List Int} {a b : Rat} {K J : Nat} (ha : Qn.Is m l1 l2 a K) (hb : Qn.Is m' k1 k2 b J) (hK1 : 1 ≤ K) (hJ1 : 1 ≤ J) (hK : K + J < 300000) : Ev (fun k => rat_Sub.f k m l1 l2 m' k1 k2) (Qn.qd (a - b)) := by
 unfold rat_Sub.f
 rw [Rat.sub_eq_add_neg]
 exact Ev.bind (rat_Neg.ev hb hJ1 (by omega)) (Ev.bind (rat_Add.ev ha (Qn.Is.qd (hb.sm hJ1).neg) hK1 hJ1 hK) (Ev.now _))
set_option synthInstance.checkSynthOrder false in
open Lin in
set_option maxHeartbeats 4000000 in
instance rat_Sub.t {k : Nat} {a0_0 : Bool} {l0_1 : List Int} {l0_2 : List Int} {a1_0 : Bool} {l1_1 : List Int} {l1_2 : List Int} {r : Bool × List Int × List Int} [h : Ans (rat_Sub.f k a0_0 l0_1 l0_2 a1_0 l1_1 l1_2) r] : Tl Try.prog 30 [.agg [.val (.bool a0_0), .row l0_1, .row l0_2], .agg [.val (.bool a1_0), .row l1_1, .row l1_2]] (.el (.agg [.val (.bool r.1), .row r.2.1, .row r.2.2])) := by
 have h := h.out
 unfold rat_Sub.f at h
 repeat' (first | (replace h := Lin.bndK h) | (replace h := Lin.bnd h; obtain ⟨_, _, h⟩ := h) | split at h | cases h)
 all_goals exact ⟨Tells.go Try.func30 Try.ntmps30⟩
section
open Lin Flo Ieee
theorem big_vn : 2 ^ 128 * 2 ^ place ≤ vn (1300 * 4503599627370496 + 0) := by
  rw [vn_mul (by decide) (by decide)]
  obtain ⟨J, hJ⟩ : ∃ J, J = 1300 - 1 := ⟨_, rfl⟩
  rw [← hJ, show (4503599627370496 + 0 : Nat) = 2 ^ 52 by decide, ← Nat.pow_add, ← Nat.pow_add]
  exact Nat.pow_le_pow_right (by omega) (by rw [place_eq]; omega)
theorem big_D {a : Rat} (hs : Qn.Sm a 4) : 0 < Dk ((1300 * 4503599627370496 + 0 : Nat) : Int) a := by
  unfold Dk
  rw [vk_nat]
  have h1 : ((2 ^ 128 * 2 ^ place : Nat) : Int) ≤ (vn (1300 * 4503599627370496 + 0) : Int) := by exact_mod_cast big_vn
  have h2 : (1 : Int) ≤ (a.den : Int) := by have := a.den_pos; omega
  have h3 : (a.num.natAbs : Int) < ((2 ^ 128 : Nat) : Int) := by exact_mod_cast hs.num
  have h4 : a.num ≤ (a.num.natAbs : Int) := by omega
  have hp : (0 : Int) < ((2 ^ place : Nat) : Int) := by exact_mod_cast Nat.two_pow_pos place
  rw [Int.natCast_mul] at h1
  generalize ((2 ^ 128 : Nat) : Int) = Q at *
  generalize ((2 ^ place : Nat) : Int) = X at *
  generalize (vn (1300 * 4503599627370496 + 0) : Int) = V at *
  generalize (a.den : Int) = d at *
  have h5 : a.num * X < Q * X := Int.mul_lt_mul_of_pos_right (by omega) hp
  have h6 : V * 1 ≤ V * d := Int.mul_le_mul_of_nonneg_left h2 (by
    have : 0 ≤ Q * X := Int.mul_nonneg (by omega) (by omega)
    omega)
  omega
theorem big_top : ((1300 * 4503599627370496 + 0 : Nat) : Int) < (top : Int) - 1 := by decide
/-- Of few words: both are numbers. -/
theorem Bt.fin {a : Rat} {l h : Int} (B : Bt a l h) (hs : Qn.Sm a 4) : -(top : Int) < l ∧ h < top := by
  have k1 := big_D hs
  have k2 := big_D hs.neg
  have ht := big_top
  have b1 := B.l1
  have b2 := B.l2
  have b3 := B.h1
  have b4 := B.h2
  constructor
  · rcases B.cs with ⟨e, _⟩ | ⟨e, _, e2 | e2⟩
    · omega
    · have : top ≥ 2 := by decide
      omega
    · rcases Int.lt_or_eq_of_le b1 with h1 | h1
      · exact h1
      · have hle : h ≤ -(((1300 * 4503599627370496 + 0 : Nat) : Int)) := by omega
        have := Dk_le a hle
        have e3 := Dk_neg ((1300 * 4503599627370496 + 0 : Nat) : Int) (-a)
        rw [Rat.neg_neg] at e3
        omega
  · rcases B.cs with ⟨e, _⟩ | ⟨e, e2 | e2, _⟩
    · omega
    · have : top ≥ 2 := by decide
      omega
    · rcases Int.lt_or_eq_of_le b4 with h1 | h1
      · exact h1
      · have := Dk_le a (show ((1300 * 4503599627370496 + 0 : Nat) : Int) ≤ l by omega)
        omega
theorem Sub_a {m m' : Bool} {l1 l2 k1 k2 : List Int} {a b : Rat} {J L : Nat} (ha : Qn.Is m l1 l2 a J) (hb : Qn.Is m' k1 k2 b L) (hJ1 : 1 ≤ J) (hJ : J ≤ 10000) (hL1 : 1 ≤ L) (hL : L ≤ 10000) : ∃ k, Ans (rat_Sub.f k m l1 l2 m' k1 k2) (Qn.qd (a - b)) ∧ Qn.Sm (a - b) (J + L + 1) := by
  obtain ⟨k, h⟩ := (rat_Sub.ev ha hb hJ1 hL1 (by omega)).rounds
  exact ⟨k, ⟨h⟩, (ha.sm hJ1).sub (hb.sm hL1)⟩
theorem fq_is {k : Int} (h1 : -(top : Int) < k) (h2 : k < top) : Qn.Is (Qn.qd (fq (wd k))).1 (Qn.qd (fq (wd k))).2.1 (Qn.qd (fq (wd k))).2.2 (fq (wd k)) wide := Qn.Is.qd (fq_sm (wd_fin h1 h2))
/-- The comparison of both distances. -/
theorem near_a {m : Bool} {l1 l2 : List Int} {a : Rat} {J : Nat} {l h : Int} (ha : Qn.Is m l1 l2 a J) (hJ1 : 1 ≤ J) (hJ : J ≤ 5000) (l0 : -(top : Int) < l) (l1' : l < top) (h0 : -(top : Int) < h) (h1 : h < top) : ∃ k1 k2 k3, Ans (rat_Sub.f k1 m l1 l2 (Qn.qd (fq (wd l))).1 (Qn.qd (fq (wd l))).2.1 (Qn.qd (fq (wd l))).2.2) (Qn.qd (a - fq (wd l))) ∧
    Ans (rat_Sub.f k2 (Qn.qd (fq (wd h))).1 (Qn.qd (fq (wd h))).2.1 (Qn.qd (fq (wd h))).2.2 m l1 l2) (Qn.qd (fq (wd h) - a)) ∧
    Ans (rat_Compare.f k3 (Qn.qd (a - fq (wd l))).1 (Qn.qd (a - fq (wd l))).2.1 (Qn.qd (a - fq (wd l))).2.2 (Qn.qd (fq (wd h) - a)).1 (Qn.qd (fq (wd h) - a)).2.1 (Qn.qd (fq (wd h) - a)).2.2) (-(Dk l a + Dk h a)).sign := by
  have hw := wide_eq
  obtain ⟨k1, A1, S1⟩ := Sub_a ha (fq_is l0 l1') hJ1 (by omega) (by omega) (by omega)
  obtain ⟨k2, A2, S2⟩ := Sub_a (fq_is h0 h1) ha (by omega) (by omega) hJ1 (by omega)
  obtain ⟨k3, A3⟩ := (rat_Compare.ev (Qn.Is.qd S1) (Qn.Is.qd S2) (by omega) (by omega) (by omega)).rounds
  exact ⟨k1, k2, k3, A1, A2, ⟨by rw [A3, near_sign ⟨by omega, by omega⟩ ⟨by omega, by omega⟩]⟩⟩
theorem even_eq {w : Nat} (h : w < 18446744073709551616) : (bits .and .u64 (w : Int) 1 == 0) = decide (w % 2 = 0) := by
  have := bits_and (a := w) (b := 1) h (by decide)
  rw [show ((1 : Nat) : Int) = 1 from rfl] at this
  rw [this, Nat.and_one_is_mod, Bool.eq_iff_iff, beq_iff_eq, decide_eq_true_iff]
  omega
set_option maxHeartbeats 4000000 in
theorem Near_t {m : Bool} {l1 l2 : List Int} {a : Rat} {J : Nat} {l h : Int} (ha : Qn.Is m l1 l2 a J) (hJ1 : 1 ≤ J) (hJ : J ≤ 5000) (B : Bt a l h) (f1 : -(top : Int) < l) (f2 : h < top) : Tl Try.prog 29 [.agg [.val (.bool m), .row l1, .row l2]] (.el (.one (.val (.float .f64 (wd (near a l h)))))) := by
  have T1 := Between_t ha hJ1 (by omega) B
  have E1 := Exact_t (wd_lt B.lin) (wd_fin f1 B.l2)
  have E2 := Exact_t (wd_lt B.hin) (wd_fin B.h1 f2)
  obtain ⟨k1, k2, k3, A1, A2, A3⟩ := near_a ha hJ1 hJ f1 B.l2 B.h1 f2
  have hz := Zn.sign_cases (-(Dk l a + Dk h a))
  have ev := even_eq (wd_lt B.lin)
  unfold near
  by_cases n1 : 0 < Dk l a + Dk h a
  · have c1 : decide ((-(Dk l a + Dk h a)).sign < 0) = true := decide_eq_true (by omega)
    rw [if_pos n1]
    exact ⟨Tells.goF Try.func29 Try.ntmps29⟩
  · have c1 : decide ((-(Dk l a + Dk h a)).sign < 0) = false := decide_eq_false (by omega)
    rw [if_neg n1]
    by_cases n2 : Dk l a + Dk h a = 0
    · have c2 : ((-(Dk l a + Dk h a)).sign == 0) = true := by rw [n2]; rfl
      rw [if_pos n2]
      by_cases n3 : wd l % 2 = 0
      · rw [decide_eq_true n3] at ev
        rw [if_pos n3]
        exact ⟨Tells.goF Try.func29 Try.ntmps29⟩
      · rw [decide_eq_false n3] at ev
        rw [if_neg n3]
        exact ⟨Tells.goF Try.func29 Try.ntmps29⟩
    · have c2 : ((-(Dk l a + Dk h a)).sign == 0) = false := by
        rw [beq_eq_false_iff_ne]
        omega
      rw [if_neg n2]
      exact ⟨Tells.goF Try.func29 Try.ntmps29⟩
end
def offcutlaw04_near.f (a0 : Int) : Option (Bool) := if (Go.bits .and .u64 (a0 / 4503599627370496) 2047) > 823 then (if (Go.bits .and .u64 (a0 / 4503599627370496) 2047) < 1223 then (some true) else (if (Go.bits .and .u64 (a0 / 4503599627370496) 2047) = 0 then (if (IntKind.u64.wrap (a0 * 4096)) = 0 then (some true) else (some ((Go.bits .and .u64 (a0 / 4503599627370496) 2047) == 2047))) else (some ((Go.bits .and .u64 (a0 / 4503599627370496) 2047) == 2047)))) else (if (Go.bits .and .u64 (a0 / 4503599627370496) 2047) = 0 then (if (IntKind.u64.wrap (a0 * 4096)) = 0 then (some true) else (some ((Go.bits .and .u64 (a0 / 4503599627370496) 2047) == 2047))) else (some ((Go.bits .and .u64 (a0 / 4503599627370496) 2047) == 2047)))
set_option maxHeartbeats 8000000 in
set_option maxRecDepth 100000 in
theorem offcutlaw04_near.calls (a0 : Int) (r : Bool) (w : World) (h : offcutlaw04_near.f a0 = some r) :
  Calls Try.prog 15 #[.int .u64 a0] w fun e w' => e = .returned (.bool r) ∧ Drawn0 w w' := by
 have H : (if (Go.bits .and .u64 (a0 / 4503599627370496) 2047) > 823 then (if (Go.bits .and .u64 (a0 / 4503599627370496) 2047) < 1223 then (some true) else (if (Go.bits .and .u64 (a0 / 4503599627370496) 2047) = 0 then (if (IntKind.u64.wrap (a0 * 4096)) = 0 then (some true) else (some ((Go.bits .and .u64 (a0 / 4503599627370496) 2047) == 2047))) else (some ((Go.bits .and .u64 (a0 / 4503599627370496) 2047) == 2047)))) else (if (Go.bits .and .u64 (a0 / 4503599627370496) 2047) = 0 then (if (IntKind.u64.wrap (a0 * 4096)) = 0 then (some true) else (some ((Go.bits .and .u64 (a0 / 4503599627370496) 2047) == 2047))) else (some ((Go.bits .and .u64 (a0 / 4503599627370496) 2047) == 2047)))) = some r := h
 clear h
 by_cases c2 : (Go.bits .and .u64 (a0 / 4503599627370496) 2047) > 823
 ·rw [if_pos c2] at H
  have c2b0 : decide (823 < (Go.bits .and .u64 (a0 / 4503599627370496) 2047)) = true := decide_eq_true c2
  clear c2
  by_cases c3 : (Go.bits .and .u64 (a0 / 4503599627370496) 2047) < 1223
  ·rw [if_pos c3] at H
   have c3b0 : decide ((Go.bits .and .u64 (a0 / 4503599627370496) 2047) < 1223) = true := decide_eq_true c3
   clear c3
   obtain rfl := Option.some.inj H
   go_enter Try.func15, Try.ntmps15
   go_wp2
   go_ret
   exact ⟨by first | rfl | (simp; done) | (simp [*]; done), by repeat (first | exact Drawn0.refl _ | apply Drawn0.step)⟩
  ·rw [if_neg c3] at H
   have c3b0 : decide ((Go.bits .and .u64 (a0 / 4503599627370496) 2047) < 1223) = false := decide_eq_false c3
   clear c3
   by_cases c4 : (Go.bits .and .u64 (a0 / 4503599627370496) 2047) = 0
   ·rw [if_pos c4] at H
    have c4b0 : ((Go.bits .and .u64 (a0 / 4503599627370496) 2047) == 0) = true := beq_iff_eq.mpr c4
    have c4b1 : ((Go.bits .and .u64 (a0 / 4503599627370496) 2047) != 0) = false := bne_eq_false_iff_eq.mpr c4
    clear c4
    by_cases c5 : (IntKind.u64.wrap (a0 * 4096)) = 0
    ·rw [if_pos c5] at H
     have c5b0 : ((IntKind.u64.wrap (a0 * 4096)) == 0) = true := beq_iff_eq.mpr c5
     have c5b1 : ((IntKind.u64.wrap (a0 * 4096)) != 0) = false := bne_eq_false_iff_eq.mpr c5
     clear c5
     obtain rfl := Option.some.inj H
     go_enter Try.func15, Try.ntmps15
     go_wp2
     go_ret
     exact ⟨by first | rfl | (simp; done) | (simp [*]; done), by repeat (first | exact Drawn0.refl _ | apply Drawn0.step)⟩
    ·rw [if_neg c5] at H
     have c5b0 : ((IntKind.u64.wrap (a0 * 4096)) == 0) = false := beq_eq_false_iff_ne.mpr c5
     have c5b1 : ((IntKind.u64.wrap (a0 * 4096)) != 0) = true := bne_iff_ne.mpr c5
     obtain rfl := Option.some.inj H
     go_enter Try.func15, Try.ntmps15
     go_wp2
     go_ret
     exact ⟨by first | rfl | (simp; done) | (simp [*]; done), by repeat (first | exact Drawn0.refl _ | apply Drawn0.step)⟩
   ·rw [if_neg c4] at H
    have c4b0 : ((Go.bits .and .u64 (a0 / 4503599627370496) 2047) == 0) = false := beq_eq_false_iff_ne.mpr c4
    have c4b1 : ((Go.bits .and .u64 (a0 / 4503599627370496) 2047) != 0) = true := bne_iff_ne.mpr c4
    obtain rfl := Option.some.inj H
    go_enter Try.func15, Try.ntmps15
    go_wp2
    go_ret
    exact ⟨by first | rfl | (simp; done) | (simp [*]; done), by repeat (first | exact Drawn0.refl _ | apply Drawn0.step)⟩
 ·rw [if_neg c2] at H
  have c2b0 : decide (823 < (Go.bits .and .u64 (a0 / 4503599627370496) 2047)) = false := decide_eq_false c2
  clear c2
  by_cases c6 : (Go.bits .and .u64 (a0 / 4503599627370496) 2047) = 0
  ·rw [if_pos c6] at H
   have c6b0 : ((Go.bits .and .u64 (a0 / 4503599627370496) 2047) == 0) = true := beq_iff_eq.mpr c6
   have c6b1 : ((Go.bits .and .u64 (a0 / 4503599627370496) 2047) != 0) = false := bne_eq_false_iff_eq.mpr c6
   clear c6
   by_cases c7 : (IntKind.u64.wrap (a0 * 4096)) = 0
   ·rw [if_pos c7] at H
    have c7b0 : ((IntKind.u64.wrap (a0 * 4096)) == 0) = true := beq_iff_eq.mpr c7
    have c7b1 : ((IntKind.u64.wrap (a0 * 4096)) != 0) = false := bne_eq_false_iff_eq.mpr c7
    clear c7
    obtain rfl := Option.some.inj H
    go_enter Try.func15, Try.ntmps15
    go_wp2
    go_ret
    exact ⟨by first | rfl | (simp; done) | (simp [*]; done), by repeat (first | exact Drawn0.refl _ | apply Drawn0.step)⟩
   ·rw [if_neg c7] at H
    have c7b0 : ((IntKind.u64.wrap (a0 * 4096)) == 0) = false := beq_eq_false_iff_ne.mpr c7
    have c7b1 : ((IntKind.u64.wrap (a0 * 4096)) != 0) = true := bne_iff_ne.mpr c7
    obtain rfl := Option.some.inj H
    go_enter Try.func15, Try.ntmps15
    go_wp2
    go_ret
    exact ⟨by first | rfl | (simp; done) | (simp [*]; done), by repeat (first | exact Drawn0.refl _ | apply Drawn0.step)⟩
  ·rw [if_neg c6] at H
   have c6b0 : ((Go.bits .and .u64 (a0 / 4503599627370496) 2047) == 0) = false := beq_eq_false_iff_ne.mpr c6
   have c6b1 : ((Go.bits .and .u64 (a0 / 4503599627370496) 2047) != 0) = true := bne_iff_ne.mpr c6
   obtain rfl := Option.some.inj H
   go_enter Try.func15, Try.ntmps15
   go_wp2
   go_ret
   exact ⟨by first | rfl | (simp; done) | (simp [*]; done), by repeat (first | exact Drawn0.refl _ | apply Drawn0.step)⟩
set_option synthInstance.checkSynthOrder false in
open Lin in
instance offcutlaw04_near.t {a0 : Int} {r : Bool} [h : Ans (offcutlaw04_near.f a0) r] : Tl Try.prog 15 [.one (.val (.int .u64 a0))] (.el (.one (.val (.bool r)))) := ⟨Tells.of Try.func15 fun out w vs ho hl hv => by
 obtain ⟨u0, rfl, h0⟩ := args1 hl hv
 obtain rfl := h0.1
 refine (offcutlaw04_near.calls a0 _ w h.out).mono ?_
 rintro e w' ⟨rfl, hb⟩
 exact ⟨_, rfl, ⟨rfl, rfl⟩, below_of_drawn hb⟩⟩
section
open Lin Flo Ieee
theorem ExactE_t {b : Nat} (hb : b < 18446744073709551616) (hf : ¬ rung b < top) : Tl Try.prog 16 [.one (.val (.float .f64 b))] (.tup [.agg [.val (.bool false), .row [], .row []], .one (.val (.int .i64 6))]) := by
  obtain ⟨c, hc⟩ : ∃ c, c = kd b := ⟨_, rfl⟩
  have K1 := kind_t (b := b)
  rw [kindR_eq hb, ← hc] at K1
  have c1 : decide (c > 2) = true := by
    rw [hc]
    unfold kd
    rw [decide_eq_true_iff]
    repeat' split
    all_goals first | omega | decide
  exact ⟨Tells.goF Try.func16 Try.ntmps16⟩
theorem sv_key' (n : Nat) : sv n = vk (key n) := by
  unfold sv vk key
  cases neg n
  · simp only [Bool.false_eq_true, if_false]
    rw [if_neg (by omega), Int.natAbs_natCast]
  · simp only [if_true]
    rw [Int.natAbs_neg, Int.natAbs_natCast]
    by_cases h : rung n = 0
    · rw [h, vn_zero]; rfl
    · rw [if_pos (by omega)]
theorem key_in {n : Nat} (h : rung n ≤ top) : InR (key n) := by
  unfold key
  split
  · exact ⟨by omega, by omega⟩
  · exact ⟨by omega, by omega⟩
theorem D_self (n : Nat) : D n (fq n) = 0 := by
  have h := cmp_D n (fq n)
  rw [Rat.sub_self] at h
  have := Zn.sign_cases (D n (fq n))
  have e : (0 : Rat).num.sign = 0 := rfl
  omega
theorem Dk_self (n : Nat) : Dk (key n) (fq n) = 0 := by
  have := D_self n
  unfold D at this
  rw [sv_key'] at this
  exact this
theorem self_bt {n : Nat} (h : rung n < top) : Bt (fq n) (key n) (key n) := by
  have := key_range h
  exact ⟨by omega, by omega, by omega, by omega, .inl ⟨rfl, Dk_self n⟩⟩
theorem near_same (a : Rat) (k : Int) : near a k k = k := by rcases near_in a k k with h | h <;> exact h
/-- None of these is a zero with a sign. -/
theorem kd_wd {k : Int} (h : InR k) : kd (wd k) ≠ 1 := by
  unfold kd
  rw [wd_rung h, wd_neg h]
  have h1 := h.lo
  have h2 := h.hi
  repeat' split
  all_goals first | decide | (rename_i c; rw [decide_eq_true_iff] at c; omega)
theorem Kind_wd {k : Int} (h : InR k) : ∃ c : Int, (c != 1) = true ∧ (c == 1) = false ∧ Tl Try.prog 11 [.one (.val (.float .f64 (wd k)))] (.el (.one (.val (.int .i64 c)))) := by
  have K1 := kind_t (b := wd k)
  rw [kindR_eq (wd_lt h)] at K1
  have := kd_wd h
  exact ⟨_, by simpa using this, by simpa using this, K1⟩
theorem near_total (n : Int) : ∃ b, offcutlaw04_near.f n = some b := by
  unfold offcutlaw04_near.f
  repeat' split
  all_goals exact ⟨_, rfl⟩
theorem feq_true {x y : Nat} (hx : rung x ≤ top) (hy : rung y ≤ top) (h : key x = key y) : (double.order x y == some .eq) = true := by
  rw [ord_eq hx hy]
  exact decide_eq_true h
set_option maxHeartbeats 4000000 in
theorem EdgeBack_t {n : Nat} (hn : n < 18446744073709551616) : Tl Try.prog 8 [.one (.val (.int .u64 (n : Int)))] (.el (.one (.val (.bool true)))) := by
  have W := awake_t
  obtain ⟨b, hb⟩ := near_total (n : Int)
  have A : Ans (offcutlaw04_near.f (n : Int)) b := ⟨hb⟩
  by_cases hf : rung n < top
  · have E : Tl Try.prog 16 [.one (.val (.float .f64 (n : Int).toNat))] (.tup [.agg [.val (.bool (Qn.qd (fq n)).1), .row (Qn.qd (fq n)).2.1, .row (Qn.qd (fq n)).2.2], .one (.val (.int .i64 0))]) := Exact_t hn hf
    cases b with
    | false => exact ⟨Tells.goF Try.func8 Try.ntmps8⟩
    | true =>
      have hw := wide_eq
      have B := self_bt hf
      have I := Qn.Is.qd (fq_sm hf)
      have T := Between_t I (by omega) (by omega) B
      have hk := key_range hf
      have N := Near_t I (by omega) (by omega) B (by omega) (by omega)
      rw [near_same] at N
      obtain ⟨c, c1, _, K1⟩ := Kind_wd B.lin
      have q : (double.order (wd (key n)) (n : Int).toNat == some .eq) = true := feq_true (wd_le B.lin) (Nat.le_of_lt hf) (wd_key B.lin)
      exact ⟨Tells.goF Try.func8 Try.ntmps8⟩
  · have E : Tl Try.prog 16 [.one (.val (.float .f64 (n : Int).toNat))] _ := ExactE_t hn hf
    cases b with
    | false => exact ⟨Tells.goF Try.func8 Try.ntmps8⟩
    | true => exact ⟨Tells.goF Try.func8 Try.ntmps8⟩
theorem offcutlaw04_EdgeBack.calls (n0 : Int) (w : World) (h : (Lit.int .u64 n0).wf = true) : Calls Try.prog 8 #[.int .u64 n0] w fun e w' => e = .returned (.bool true) ∧ Below w.heap.size w w' := by
  obtain ⟨n, rfl, hn⟩ := wf_u64 h
  exact law_calls (vs := [.int .u64 (n : Int)]) (ds := [.one (.val (.int .u64 (n : Int)))]) Try.func8 (EdgeBack_t hn) rfl (args_cons ⟨rfl, rfl⟩ args_mk0)
end
section
open Lin Flo Ieee
instance : IntT Try.prog 5 .u8 := ⟨Try.underlying5⟩
/-- Above all: the lower one. -/
theorem Near_hi {m : Bool} {l1 l2 : List Int} {a : Rat} {J : Nat} {l : Int} (ha : Qn.Is m l1 l2 a J) (hJ1 : 1 ≤ J) (hJ : J ≤ 5000) (B : Bt a l top) (f1 : -(top : Int) < l) : Tl Try.prog 29 [.agg [.val (.bool m), .row l1, .row l2]] (.el (.one (.val (.float .f64 (wd l))))) := by
  have T1 := Between_t ha hJ1 (by omega) B
  have E1 := Exact_t (wd_lt B.lin) (wd_fin f1 B.l2)
  have E2 := ExactE_t (wd_lt B.hin) (by rw [wd_rung B.hin]; omega)
  exact ⟨Tells.goF Try.func29 Try.ntmps29⟩
/-- Below all: the upper one. -/
theorem Near_lo {m : Bool} {l1 l2 : List Int} {a : Rat} {J : Nat} {h : Int} (ha : Qn.Is m l1 l2 a J) (hJ1 : 1 ≤ J) (hJ : J ≤ 5000) (B : Bt a (-(top : Int)) h) (f2 : h < top) : Tl Try.prog 29 [.agg [.val (.bool m), .row l1, .row l2]] (.el (.one (.val (.float .f64 (wd h))))) := by
  have T1 := Between_t ha hJ1 (by omega) B
  have E1 := ExactE_t (wd_lt B.lin) (by rw [wd_rung B.lin]; omega)
  have E2 := Exact_t (wd_lt B.hin) (wd_fin B.h1 f2)
  exact ⟨Tells.goF Try.func29 Try.ntmps29⟩
/-- A power of 2, as a fraction. -/
def pw (x : Nat) : Rat := (((2 ^ x : Nat) : Int) : Rat)
theorem pw_add (x : Nat) : pw x + pw x = pw (x + 1) := by
  unfold pw
  rw [← Rat.intCast_add]
  congr 1
  rw [Nat.pow_succ]
  omega
theorem pw_sm {x : Nat} (hx : x ≤ 1100) : Qn.Sm (pw x) wide := by
  refine Qn.Sm.int ?_ (by rw [wide_eq]; omega)
  rw [Int.natAbs_natCast]
  exact Nat.pow_lt_pow_right (by omega) (by rw [wide_eq]; omega)
theorem pw_bt {x : Nat} (hx : 1024 ≤ x) : Bt (pw x) ((top : Int) - 1) top := by
  have ht : (top : Int) = 9218868437227405312 := rfl
  refine ⟨by omega, by omega, by omega, by omega, .inr ⟨by omega, .inr ?_, .inl rfl⟩⟩
  have e : (top : Int) - 1 = ((2046 * 4503599627370496 + 4503599627370495 : Nat) : Int) := by decide
  have hn : (pw x).num = ((2 ^ x : Nat) : Int) := rfl
  have hd : (pw x).den = 1 := rfl
  unfold Dk
  rw [e, vk_nat, vn_mul (by decide) (by decide), hn, hd]
  obtain ⟨I, hI⟩ : ∃ I, I = 2046 - 1 := ⟨_, rfl⟩
  rw [← hI]
  have h1 : (4503599627370496 + 4503599627370495) * 2 ^ I < 2 ^ x * 2 ^ place := by
    have a : (4503599627370496 + 4503599627370495) * 2 ^ I < 2 ^ 53 * 2 ^ I := (Nat.mul_lt_mul_right (Nat.two_pow_pos I)).2 (by decide)
    rw [← Nat.pow_add] at a
    rw [← Nat.pow_add]
    exact Nat.lt_of_lt_of_le a (Nat.pow_le_pow_right (by omega) (by rw [place_eq]; omega))
  have h2 : (((4503599627370496 + 4503599627370495) * 2 ^ I : Nat) : Int) < ((2 ^ x : Nat) : Int) * ((2 ^ place : Nat) : Int) := by
    rw [← Int.natCast_mul]
    exact Int.ofNat_lt.2 h1
  omega
set_option maxHeartbeats 8000000 in
theorem EdgeGreat_t {n : Nat} (hn : n < 256) {mi : Bool} : Tl Try.prog 9 [.one (.val (.int .u8 (n : Int))), .one (.val (.bool mi))] (.el (.one (.val (.bool true)))) := by
  have W := awake_t
  have hw := wide_eq
  obtain ⟨k0, a0⟩ := (rat_Int.ev 1 (by omega) (by omega)).rounds
  have A0 : Ans (rat_Int.f k0 1) (Qn.qd (pw 0)) := ⟨a0⟩
  obtain ⟨t, ht⟩ : ∃ t, t = 1024 + n % 77 := ⟨_, rfl⟩
  have hraw : wrap64 (1024 + (wrap64 (n : Int)).tmod 77) = (t : Int) := by
    rw [wrap64_id (n := (n : Int)) (by omega) (by omega), show (n : Int).tmod 77 = ((n % 77 : Nat) : Int) from rfl, wrap64_id (by omega) (by omega)]
    omega
  refine ⟨Tells.body Try.func9 (by rfl) (by kernel_rfl) ?_ (by kernel_rfl)⟩
  rw [Try.ntmps9]
  repeat' (first
      | refine Run.mv ?_ | refine Run.asg ?_ | refine Run.irem ?_ | refine Run.call1 ?_ | refine Run.st ?_ | refine Run.iar64 ?_ | refine Run.al ?_ | refine Run.cnv64 ?_ | refine Run.endF ?_ | refine Run.endT ?_ | refine K.thenN ?_ | refine AWp.seq ?_ | refine AWp.regF ?_ | refine AWp.regT ?_ | refine AWp.block ?_)
  refine AWp.loop (X := Nat) (fun x => x ≤ t) (fun x => ⟨63, [(1, .rs (.el (.one (.val (.bool mi))))), (5, .ptr 5 0), (13, .rs (.el (.one (.val (.int .i64 (t : Int)))))), (14, .rs (.el (.one (.val (.int .i64 (x : Int))))))], [(5, 34, [.val (.bool (Qn.qd (pw x)).1), .row (Qn.qd (pw x)).2.1, .row (Qn.qd (pw x)).2.2])]⟩) (fun x => t - x) 0 (Nat.zero_le _) ?_ ?_
  · refine ⟨rfl, ⟨rfl, rfl, ?_, rfl, trivial⟩, ⟨rfl, trivial⟩, rfl⟩
    show Den.rs (.el (.one (.val (.int .i64 (wrap64 (1024 + (wrap64 (n : Int)).tmod 77)))))) = _
    rw [hraw]
  · intro x hx
    have hx : x ≤ t := hx
    have I := Qn.Is.qd (pw_sm (x := x) (by omega))
    by_cases hc : x < t
    · have c1 : decide ((x : Int) < (t : Int)) = true := decide_eq_true (by omega)
      obtain ⟨k, a⟩ := (rat_Add.ev I I (by omega) (by omega) (by omega)).rounds
      rw [pw_add] at a
      have A : Ans (rat_Add.f k (Qn.qd (pw x)).1 (Qn.qd (pw x)).2.1 (Qn.qd (pw x)).2.2 (Qn.qd (pw x)).1 (Qn.qd (pw x)).2.1 (Qn.qd (pw x)).2.2) (Qn.qd (pw (x + 1))) := ⟨a⟩
      repeat' (first
          | refine Run.mv ?_ | refine Run.asg ?_ | refine Run.ld3 ?_ | refine Run.call2 ?_ | refine Run.st ?_ | refine Run.icmp ?_ | refine Run.iar64 ?_ | refine Run.endF ?_ | refine Run.endT ?_ | refine K.thenN ?_ | refine K.blkN ?_ | refine AWp.seq ?_ | refine AWp.regF ?_ | refine AWp.regT ?_ | refine AWp.block ?_ | refine AWp.condT ?_ | refine AWp.skip ?_)
      refine K.rndN (x + 1) (by show x + 1 ≤ t; omega) (by show t - (x + 1) < t - x; omega) ⟨rfl, ⟨rfl, rfl, rfl, ?_, trivial⟩, ⟨rfl, trivial⟩, rfl⟩
      show Den.rs (.el (.one (.val (.int .i64 (wrap64 ((x : Int) + 1)))))) = _
      rw [wrap64_id (by omega) (by omega)]
      rfl
    · have c1 : decide ((x : Int) < (t : Int)) = false := decide_eq_false (by omega)
      have B := pw_bt (x := x) (by omega)
      have T := Between_t I (by omega) (by omega) B
      have ht' : (top : Int) = 9218868437227405312 := rfl
      have N := Near_hi I (by omega) (by omega) B (by omega)
      obtain ⟨k, g⟩ := (rat_Neg.ev I (by omega) (by omega)).rounds
      have G : Ans (rat_Neg.f k (Qn.qd (pw x)).1 (Qn.qd (pw x)).2.1 (Qn.qd (pw x)).2.2) (Qn.qd (-pw x)) := ⟨g⟩
      have I2 := Qn.Is.qd (pw_sm (x := x) (by omega)).neg
      have B2 : Bt (-pw x) (-(top : Int)) (-((top : Int) - 1)) := by
        rw [← Rat.neg_neg (pw x)] at B
        exact B.turn
      have T2 := Between_t I2 (by omega) (by omega) B2
      have N2 := Near_lo I2 (by omega) (by omega) B2 (by omega)
      have i1 : infR (wd (-(top : Int)) ^^^ 9223372036854775808) = true := by
        rw [show wd (-(top : Int)) ^^^ 9223372036854775808 = top by decide, infR_eq (by decide)]
        decide
      have i2 : infR (wd (top : Int)) = true := by
        rw [show wd (top : Int) = top by decide, infR_eq (by decide)]
        decide
      have q1 : (double.order (wd (-((top : Int) - 1))) 18442240474082181119 == some .eq) = true := feq_true (by decide) (by decide) (by decide)
      have q2 : (double.order (wd ((top : Int) - 1)) 9218868437227405311 == some .eq) = true := feq_true (by decide) (by decide) (by decide)
      cases mi <;> repeat' (first
        | refine Run.mv ?_ | refine Run.asg ?_ | refine Run.fcmp ?_ | refine Run.ld3 ?_ | refine Run.call1 ?_ | refine Run.call2 ?_ | refine Run.call0 ?_ | refine Run.icmp ?_ | refine Run.ext ?_ | refine Run.skp ?_ | refine Run.skp0 ?_ | refine Run.pckT ?_ | refine Run.pckF ?_
        | refine Run.endF ?_ | refine Run.endT ?_ | exact FinK.ret1 | refine K.thenN ?_ | refine K.thenR ?_ | refine K.blkN ?_ | refine K.blkR ?_ | refine K.blkX ?_ | refine K.thenX ?_ | refine K.blkY ?_ | refine K.rndX ?_
        | refine AWp.seq ?_ | refine AWp.regF ?_ | refine AWp.regT ?_ | refine AWp.ret ?_ | refine AWp.condT ?_ | refine AWp.condF ?_ | refine AWp.skip ?_ | refine AWp.block ?_ | refine AWp.exit ?_)
theorem wf_u8 {n0 : Int} (h : (Lit.int .u8 n0).wf = true) : ∃ n : Nat, n0 = (n : Int) ∧ n < 256 := by
  have a : IntKind.u8.min = 0 := by decide
  have b : IntKind.u8.max = 255 := by decide
  simp [Lit.wf, a, b] at h
  exact ⟨n0.toNat, by omega, by omega⟩
theorem offcutlaw04_EdgeGreat.calls (n0 : Int) (b1 : Bool) (w : World) (h : (Lit.int .u8 n0).wf = true) : Calls Try.prog 9 #[.int .u8 n0, .bool b1] w fun e w' => e = .returned (.bool true) ∧ Below w.heap.size w w' := by
  obtain ⟨n, rfl, hn⟩ := wf_u8 h
  exact law_calls (vs := [.int .u8 (n : Int), .bool b1]) (ds := [.one (.val (.int .u8 (n : Int))), .one (.val (.bool b1))]) Try.func9 (EdgeGreat_t hn) rfl (args_cons ⟨rfl, rfl⟩ (args_cons ⟨rfl, rfl⟩ args_mk0))
end
section
open Lin Flo Ieee
instance clo_t {x0 x1 x2 : At} : Tc Try.prog 27 [(4, [.val (.bool false)]), (34, [x0, x1, x2])] (.el (.agg [x0, x1, x2])) := ⟨TellsC.body2 Try.func27 (by rfl) (by kernel_rfl) (by kernel_rfl) (by
  rw [Try.ntmps27]
  repeat' (first
      | refine Run.mv ?_ | refine Run.asg ?_ | refine Run.ld1 ?_ | refine Run.ld3 ?_ | refine Run.st ?_ | refine Run.al ?_
      | refine Run.endF ?_ | refine Run.endT ?_ | exact FinK.ret1 | refine K.thenN ?_ | refine K.thenR ?_
      | refine AWp.seq ?_ | refine AWp.regF ?_ | refine AWp.regT ?_ | refine AWp.ret ?_ | refine AWp.condT ?_ | refine AWp.condF ?_ | refine AWp.skip ?_)) (by kernel_rfl)⟩
def boom : Value := .iface 9 (.string ⟨#[111, 102, 102, 99, 117, 116]⟩)
theorem clo_panics {g1 g2 : Nat} {w : World} {cs : Array Value} (h : w.heap[g1]? = some (.cells #[.bool true] 4 (0, 0))) : Calls Try.prog 27 #[.pointer (some ⟨g1, 0, none⟩), .pointer (some ⟨g2, 0, none⟩)] w fun e w' => e = .panicked [{ v := boom, recovered := false }] ∧ Below w.heap.size w w' := by
  have hlt : g1 < w.heap.size := (Array.getElem?_eq_some_iff.1 h).1
  have hc : w.cell? ⟨g1, 0, none⟩ = some (.bool true) := (cell_of_box (cs := [.bool true]) h).trans rfl
  go_enter Try.func27, Try.ntmps27
  go_wp2
  exact ⟨rfl, rfl, ((Below.refl _ _).alloc (Nat.le_refl _) _)⟩
theorem catch_idle (p q : Value) (w : World) : CallsD Try.prog 59 #[p, q] .returning w fun e u' w' => e = .returned (.tuple #[]) ∧ u' = .returning ∧ w' = w := by
  refine callsD_of_wpS Try.func59 rfl fun c₀ cs hu => ?_
  apply wpS_seq
  apply wpS_region
  simp [wpOpsS, go_sem, recoverD, hu, Try.ntmps59, Exit.thenS]
  refine wpS_cond (t := false) (by simp [Act.eval, Array.replicate]) ?_
  simp only [Bool.false_eq_true, if_false]
  refine wpS_of_wp (wp_skip ?_)
  cases c₀
  simp_all [bodyPostS, results, Try.results59]
/-- Two variables under other numbers; something is deferred. -/
theorem rename {out : Nat → Prop} {w00 w : World} {pn ρ : Nat → Nat} {n : Nat} {e0 : List (Nat × Den)} {b0 : List (Nat × Go.TypeId × List At)} {T2 T3 : Go.TypeId} {x y : List At} {a : Act} {D : List Deferred} {v5 : Value} (h : RelP out ⟨w00, [], pn⟩ ρ ⟨n, (3, .ptr 3 0) :: (2, .ptr 2 0) :: e0, (3, T3, y) :: (2, T2, x) :: b0⟩ a w)
    (he0 : ∀ t k, k ∈ (get e0 t).ks → 1000 ≤ k) (hb0 : ∀ k, (boxOf b0 k).isSome = true → 1000 ≤ k) (hn : n ≤ 500) (h5 : 5 < n) :
    RelP out ⟨w00, D, fun k => if k = 501 then ρ 3 else if k = 500 then ρ 2 else ρ k⟩ (fun k => if k = 501 then ρ 3 else if k = 500 then ρ 2 else ρ k) ⟨n, (5, .any) :: (3, .ptr 501 0) :: (2, .ptr 500 0) :: e0, (501, T3, y) :: (500, T2, x) :: b0⟩ { tmps := a.tmps.setIfInBounds 5 v5, defers := D } w := by
  have hbx : ∀ k b, boxOf ((501, T3, y) :: (500, T2, x) :: b0) k = some b → ∃ k', boxOf ((3, T3, y) :: (2, T2, x) :: b0) k' = some b ∧ (if k = 501 then ρ 3 else if k = 500 then ρ 2 else ρ k) = ρ k' ∧ (k = 501 ∧ k' = 3 ∨ k = 500 ∧ k' = 2 ∨ 1000 ≤ k ∧ k' = k) := by
    intro k b hk
    by_cases e1 : 501 = k
    · subst e1
      rw [boxOf_same] at hk
      exact ⟨3, by rw [boxOf_same]; exact hk, by simp, .inl ⟨rfl, rfl⟩⟩
    · rw [boxOf_other e1] at hk
      by_cases e2 : 500 = k
      · subst e2
        rw [boxOf_same] at hk
        exact ⟨2, by rw [boxOf_other (by decide), boxOf_same]; exact hk, by simp, .inr (.inl ⟨rfl, rfl⟩)⟩
      · rw [boxOf_other e2] at hk
        have hk0 := hb0 k (by rw [hk]; rfl)
        exact ⟨k, by rw [boxOf_other (by omega), boxOf_other (by omega)]; exact hk, by rw [if_neg (by omega), if_neg (by omega)], .inr (.inr ⟨hk0, rfl⟩)⟩
  have hbad : ∀ b, badOf out (fun k => if k = 501 then ρ 3 else if k = 500 then ρ 2 else ρ k) ⟨n, (5, .any) :: (3, .ptr 501 0) :: (2, .ptr 500 0) :: e0, (501, T3, y) :: (500, T2, x) :: b0⟩ b → badOf out ρ ⟨n, (3, .ptr 3 0) :: (2, .ptr 2 0) :: e0, (3, T3, y) :: (2, T2, x) :: b0⟩ b := by
    rintro b (hb | ⟨k, hk, rfl⟩)
    · exact .inl hb
    · obtain ⟨bb, hbb⟩ := Option.isSome_iff_exists.1 hk
      obtain ⟨k', h1, h2, _⟩ := hbx k bb hbb
      exact .inr ⟨k', by rw [h1]; rfl, h2.symm⟩
  have hm : Moves w (badOf out ρ ⟨n, (3, .ptr 3 0) :: (2, .ptr 2 0) :: e0, (3, T3, y) :: (2, T2, x) :: b0⟩) w (badOf out (fun k => if k = 501 then ρ 3 else if k = 500 then ρ 2 else ρ k) ⟨n, (5, .any) :: (3, .ptr 501 0) :: (2, .ptr 500 0) :: e0, (501, T3, y) :: (500, T2, x) :: b0⟩) := Moves.less hbad
  have hget : ∀ t, t ≠ 5 → (a.tmps.setIfInBounds 5 v5).getD t undef = a.tmps.getD t undef := fun t ht => by simp [Array.getElem?_setIfInBounds, Ne.symm ht]
  refine ⟨by simp [h.size], rfl, fun _ _ => rfl, fun t => ?_, fun k T xs hk => ?_, fun k k' h1 h2 he => ?_, fun t k ht => ?_, h.out_, h.below⟩
  · by_cases t5 : 5 = t
    · subst t5; trivial
    · show SeesD _ _ _ _ (get ((5, .any) :: (3, .ptr 501 0) :: (2, .ptr 500 0) :: e0) t)
      rw [get_other t5, hget t (Ne.symm t5)]
      have hs := h.slots t
      by_cases t3 : 3 = t
      · subst t3
        rw [get_same] at hs ⊢
        exact hs.trans (by simp)
      · rw [get_other t3] at hs ⊢
        by_cases t2 : 2 = t
        · subst t2
          rw [get_same] at hs ⊢
          exact hs.trans (by simp)
        · rw [get_other t2] at hs ⊢
          have hk := he0 t
          have hs := hs.move hm
          generalize get e0 t = d at *
          cases d with
          | rs r => exact hs
          | ptr k off =>
            have := hk k (by simp [Den.ks])
            exact hs.trans (by simp only []; rw [if_neg (by omega), if_neg (by omega)])
          | clo f ks =>
            refine Eq.trans (show _ = _ from hs) ?_
            show Value.func _ _ _ = Value.func _ _ _
            congr 2
            exact List.map_congr_left (fun k hk' => by have := hk k hk'; simp only []; rw [if_neg (by omega), if_neg (by omega)])
          | und => exact hs
          | any => trivial
  · obtain ⟨k', h1, h2, h3⟩ := hbx k _ hk
    obtain ⟨q1, cs, q2, q3⟩ := h.boxes k' T xs h1
    refine ⟨fun hlt => ?_, cs, ?_, q3.move hm⟩
    · rw [h2]
      refine q1 ?_
      rcases h3 with ⟨_, e⟩ | ⟨_, e⟩ | ⟨e, _⟩ <;> omega
    · rw [h2]; exact q2
  · obtain ⟨b1, hb1⟩ := Option.isSome_iff_exists.1 h1
    obtain ⟨b2, hb2⟩ := Option.isSome_iff_exists.1 h2
    obtain ⟨j, p1, p2, p3⟩ := hbx k _ hb1
    obtain ⟨j', p1', p2', p3'⟩ := hbx k' _ hb2
    have he : (if k = 501 then ρ 3 else if k = 500 then ρ 2 else ρ k) = (if k' = 501 then ρ 3 else if k' = 500 then ρ 2 else ρ k') := he
    rw [p2, p2'] at he
    have := h.inj j j' (by show (boxOf ((3, T3, y) :: (2, T2, x) :: b0) j).isSome = true; rw [p1]; rfl) (by show (boxOf ((3, T3, y) :: (2, T2, x) :: b0) j').isSome = true; rw [p1']; rfl) he
    omega
  · have ht : k ∈ (get ((5, .any) :: (3, .ptr 501 0) :: (2, .ptr 500 0) :: e0) t).ks := ht
    show (boxOf ((501, T3, y) :: (500, T2, x) :: b0) k).isSome = true
    by_cases t5 : 5 = t
    · subst t5; rw [get_same] at ht; cases ht
    · rw [get_other t5] at ht
      by_cases t3 : 3 = t
      · subst t3; rw [get_same] at ht; simp only [Den.ks, List.mem_singleton] at ht; subst ht; rfl
      · rw [get_other t3] at ht
        by_cases t2 : 2 = t
        · subst t2; rw [get_same] at ht; simp only [Den.ks, List.mem_singleton] at ht; subst ht; rfl
        · rw [get_other t2] at ht
          have hk := he0 t k ht
          have := h.ptrs t k (by show k ∈ (get ((3, .ptr 3 0) :: (2, .ptr 2 0) :: e0) t).ks; rw [get_other t3, get_other t2]; exact ht)
          have this : (boxOf ((3, T3, y) :: (2, T2, x) :: b0) k).isSome = true := this
          rw [boxOf_other (by omega), boxOf_other (by omega)] at this
          rw [boxOf_other (by omega), boxOf_other (by omega)]
          exact this
end
section
open Lin Flo Ieee
instance : OneT Try.prog 35 := ⟨by kernel_rfl, by kernel_rfl⟩
instance : ZeroT Try.prog 35 [.int .i64 0] [.val (.int .i64 0)] := ⟨by kernel_rfl, rfl⟩
theorem refit {out : Nat → Prop} {B : Base} {ρ : Nat → Nat} {s : St} {a : Act} {w : World} (h : RelP out B ρ s a w) {n : Nat} {tm : Array Value} {D : List Deferred} {e0 : List (Nat × Den)} (hsz : tm.size = n) (hs : ∀ t, SeesD w (badOf out ρ s) ρ (tm.getD t undef) (get e0 t)) (hp : ∀ t k, k ∈ (get e0 t).ks → (boxOf s.box k).isSome = true) :
    RelP out ⟨B.toWorld, D, ρ⟩ ρ ⟨n, e0, s.box⟩ { tmps := tm, defers := D } w := ⟨hsz, rfl, fun _ _ => rfl, hs, h.boxes, h.inj, hp, h.out_, h.below⟩
abbrev zq : Bool × List Int × List Int := Qn.qd ((0 : Int) : Rat)
theorem get_two (x y : Den) (i j t : Nat) : (t = i ∧ get [(i, x), (j, y)] t = x) ∨ (t = j ∧ get [(i, x), (j, y)] t = y) ∨ get [(i, x), (j, y)] t = .any := by
  by_cases e1 : i = t
  · subst e1; exact .inl ⟨rfl, get_same _ _ _⟩
  · rw [get_other e1]
    by_cases e2 : j = t
    · subst e2; exact .inr (.inl ⟨rfl, get_same _ _ _⟩)
    · rw [get_other e2]; exact .inr (.inr rfl)
theorem catch_panicking {u : Go.TypeId} {pv : Value} {out : Nat → Prop} {B : Base} {ρ : Nat → Nat} {n : Nat} {e0 : List (Nat × Den)} {b0 : List (Nat × Go.TypeId × List At)} {x0 x1 x2 y : At} {a : Act} {w : World} (h : RelP out B ρ ⟨n, e0, (501, 35, [y]) :: (500, 34, [x0, x1, x2]) :: b0⟩ a w) :
    CallsD Try.prog 59 #[.pointer (some ⟨ρ 500, 0, none⟩), .pointer (some ⟨ρ 501, 0, none⟩)] (.panicking [{ v := .iface u pv, recovered := false }]) w fun e u' w' => e = .returned (.tuple #[]) ∧ u' = .panicking [{ v := .iface u pv, recovered := true }] ∧
      ∃ ρ' a' e', RelP out ⟨B.toWorld, [], ρ⟩ ρ' ⟨5, e', (501, 35, [.val (.int .i64 1)]) :: (500, 34, [.val (.bool zq.1), .row zq.2.1, .row zq.2.2]) :: (501, 35, [y]) :: (500, 34, [x0, x1, x2]) :: b0⟩ a' w' := by
  refine callsD_of_wpS Try.func59 rfl fun c₀ cs hu => ?_
  apply wpS_seq
  apply wpS_region
  simp [wpOpsS, go_sem, recoverD, hu, Try.ntmps59, Exit.thenS]
  refine wpS_cond (t := true) (by simp [Act.eval, Array.replicate]) ?_
  simp only [if_true]
  obtain ⟨k, z⟩ := (rat_Int.ev 0 (by omega) (by omega)).rounds
  have Z : Ans (rat_Int.f k 0) zq := ⟨z⟩
  have W : AWp Try.prog (match Try.f59.body with | some (.seq _ (.cond _ c _)) => c | _ => .skip) ⟨5, [(0, .ptr 500 0), (1, .ptr 501 0)], (501, 35, [y]) :: (500, 34, [x0, x1, x2]) :: b0⟩ (fun e s' => e = .normal ∧ ∃ e', s' = ⟨5, e', (501, 35, [.val (.int .i64 1)]) :: (500, 34, [.val (.bool zq.1), .row zq.2.1, .row zq.2.2]) :: (501, 35, [y]) :: (500, 34, [x0, x1, x2]) :: b0⟩) := by
    refine AWp.regF ?_
    repeat' (first | refine Run.call1 ?_ | refine Run.st ?_ | refine Run.st1 ?_ | refine Run.endF ?_)
    exact ⟨rfl, _, rfl⟩
  refine wpS_of_wp ?_
  unfold AWp at W
  refine wp_mono (W out ⟨B.toWorld, [], ρ⟩ _ w ⟨ρ, refit h (by simp) (fun t => ?_) (fun t j hj => ?_)⟩) (fun e a' w' hh => ?_)
  · rcases get_two (.ptr 500 0) (.ptr 501 0) 0 1 t with ⟨rfl, e⟩ | ⟨rfl, e⟩ | e <;> rw [e]
    · rfl
    · rfl
    · trivial
  · rcases get_two (.ptr 500 0) (.ptr 501 0) 0 1 t with ⟨rfl, e⟩ | ⟨rfl, e⟩ | e <;> rw [e] at hj <;> simp only [Den.ks, List.mem_singleton, List.not_mem_nil] at hj <;> subst hj <;> rfl
  · obtain ⟨s', ⟨rfl, e', rfl⟩, ρ', hr⟩ := hh
    exact ⟨hr.defers, _, rfl, _, by simp [results, Try.results59], rfl, rfl, ρ', a', e', hr⟩
end
end Go.Proofs.Ytdhioaoojemcpaa.PR
