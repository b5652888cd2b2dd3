/- Several functions' texts in one file. -/
import Derived.Test.YtcdkopidgibijaaTy
import Derived.Test.YtcdkopidgibijaaShort
import Derived.Test.YtcdkopidgibijaaNum
import Derived.Test.YtcdkopidgibijaaDec
import Derived.Test.YtcdkopidgibijaaPRg0
import Derived.Test.YtcdkopidgibijaaPRg1
import Derived.Test.YtcdkopidgibijaaInt
import Derived.Test.YtcdkopidgibijaaRat
import Derived.Test.YtcdkopidgibijaaGoc
import Derived.Test.YtcdkopidgibijaaClo
namespace Go.Proofs.Ytcdkopidgibijaa.PR
open Go.RowKit Go.Proofs.YtcdkopidgibijaaW.PrintWords Go.Proofs.YtcdkopidgibijaaW.PrintLast Go.Proofs.YtcdkopidgibijaaW.PrintMore
attribute [local go_sem] max2_int min2_int max_two min_two max_three min_three max_four min_four   -- for this text's walks alone
set_option linter.unusedVariables false
set_option linter.unusedSimpArgs false
mutual
def offcutref01_Of.l0 : Nat → List Int → ByteArray → Int → Option (ByteArray)
 | 0, _, _, _ => none
 | k + 1, x0, x3, x4 => if x4 ≥ 0 then ((offcutref01_Mul.f k x3 (⟨#[52, 50, 57, 52, 57, 54, 55, 50, 57, 54]⟩ : ByteArray)).bind fun t634 => (if 0 ≤ x4 then (if x4 < (x0.length : Int) then (offcutref01_Of.l1 k x0 t634 x4 (rd x0 x4) (⟨#[]⟩ : ByteArray)) else (none)) else (none))) else (some x3)
def offcutref01_Of.l1 : Nat → List Int → ByteArray → Int → Int → ByteArray → Option (ByteArray)
 | 0, _, _, _, _, _ => none
 | k + 1, x0, x3, x4, x5, x6 => if x5 > 0 then ((offcutref01_sign.f (wrap64 (Int.tmod x5 10))).bind fun t636 => (if t636.size + x6.size ≤ 9223372036854775807 then (offcutref01_Of.l1 k x0 x3 x4 ((Int.tdiv x5 10) % 4294967296) (t636 ++ x6)) else (none))) else ((offcutref01_cut.f k x6).bind fun t637 => ((offcutref01_Add.f k x3 t637).bind fun t638 => (offcutref01_Of.l0 k x0 t638 (wrap64 (x4 - 1)))))
end
def offcutref01_Of.f (k : Nat) (l0 : List Int) : Option (ByteArray) := offcutref01_Of.l0 k l0 (⟨#[48]⟩ : ByteArray) (wrap64 ((l0.length : Int) - 1))
set_option maxHeartbeats 8000000 in
set_option maxRecDepth 100000 in
theorem offcutref01_Of.calls (k : Nat) (A0 : Option Addr) (c0 : Nat) (l0 : List Int) (r : ByteArray) (w : World) (hr0 : Kd.C (Kd.int .u32) w A0 l0.length l0) (hc0 : l0.length ≤ c0) (h : offcutref01_Of.f k l0 = some r) :
  Calls Try.prog 47 #[.slice A0 l0.length c0] w fun e w' => e = .returned (.string r) ∧ Below w.heap.size w w' := by
 have HR0 := Aside0.mk hr0
 have HC0 := Aside0.mk hc0
 clear hr0 hc0
 have HB := Aside0.mk (Below.refl w.heap.size w)
 have H : (offcutref01_Of.l0 k l0 (⟨#[48]⟩ : ByteArray) (wrap64 ((l0.length : Int) - 1))) = some r := h
 clear h
 have H' := Aside0.mk H
 clear H
 go_enter Try.func47, Try.ntmps47
 go_wp2
 go_loopg [3, 4] k (fun kq v3 v4 w' => ∃ (x3_1 : ByteArray) (x4_1 : Int), v3 = .string x3_1 ∧ v4 = .int .i64 x4_1 ∧ Aside0 (offcutref01_Of.l0 kq l0 x3_1 x4_1 = some r) ∧ Aside0 (kq ≤ k) ∧ Aside0 (Below w.heap.size w w'))
 case atStart => exact ⟨((⟨#[48]⟩ : ByteArray)), (wrap64 ((l0.length : Int) - 1)), (by first | rfl | (simp; done) | (simp [*]; done)), (by first | rfl | (simp; done) | (simp [*]; done)), H', ⟨Nat.le_refl _⟩, ⟨by repeat (first | (with_reducible first | exact HB.out | apply below_alloc | apply pw_below_drewN | apply below_drew1) | exact HB.out)⟩⟩
 case round =>
  clear H'
  obtain ⟨x3_1, x4_1, rfl, rfl, HA, HK1, HB⟩ := hrel
  cases gk with
  | zero => exact absurd HA.out (by simp [offcutref01_Of.l0])
  | succ k1 =>
   have H := HA.out
   clear HA
   simp only [offcutref01_Of.l0] at H
   by_cases c2 : x4_1 ≥ 0
   ·rw [if_pos c2] at H
    have c2b0 : decide (0 ≤ x4_1) = true := decide_eq_true c2
    clear c2
    replace H := Option.bind_eq_some_iff.mp H
    obtain ⟨t634, A30, H⟩ := H
    try dsimp only at H
    have A3 := Aside0.mk A30
    clear A30
    by_cases c4 : 0 ≤ x4_1
    ·rw [if_pos c4] at H
     have c4b0 : decide (0 ≤ x4_1) = true := decide_eq_true c4
     clear c4
     by_cases c5 : x4_1 < (l0.length : Int)
     ·rw [if_pos c5] at H
      have c5b0 : decide (x4_1 < (l0.length : Int)) = true := decide_eq_true c5
      clear c5
      have H' := Aside0.mk H
      clear H
      go_wp2_with (first | ((with_reducible refine gate_callee (f := 51) rfl ?_); refine Short.goesS_ (some 15) Try.func51 #[.string x3_1, .string (⟨#[52, 50, 57, 52, 57, 54, 55, 50, 57, 54]⟩ : ByteArray)] ?_; (with_reducible refine (offcutref01_Mul.calls k1 x3_1 (⟨#[52, 50, 57, 52, 57, 54, 55, 50, 57, 54]⟩ : ByteArray) t634 _ A3.out).mono ?_); rintro e w6 ⟨rfl, hb⟩; refine ⟨_, rfl, ?_⟩; replace HB := Aside0.mk (below_step (by repeat (first | (with_reducible first | exact HB.out | apply below_alloc | apply pw_below_drewN | apply below_drew1) | exact HB.out)) hb); (try clear hb); have p635 : 0 ≤ (x4_1 : Int) := of_decide_eq_true (by first | (with_reducible assumption) | assumption); have q635 : x4_1 < (l0.length : Int) := of_decide_eq_true (by first | (with_reducible assumption) | assumption); obtain ⟨ad635, e635, hx635_0⟩ := Kd.at_int HR0.out x4_1 p635 q635; cases e635; replace hx635_0 := (HB.out.cell (World.block_lt_of_cell? w _ hx635_0)).trans hx635_0; replace p635 := eq_true p635; replace q635 := eq_true q635))
      go_loopg [5, 6] k1 (fun kq v5 v6 w' => ∃ (x5_2 : Int) (x6_2 : ByteArray), v5 = .int .u32 x5_2 ∧ v6 = .string x6_2 ∧ Aside0 (offcutref01_Of.l1 kq l0 t634 x4_1 x5_2 x6_2 = some r) ∧ Aside0 (kq ≤ k1) ∧ Aside0 (Below w.heap.size w w'))
      case atStart => exact ⟨(rd l0 x4_1), ((⟨#[]⟩ : ByteArray)), (by first | rfl | (simp; done) | (simp [*]; done)), (by first | rfl | (simp; done) | (simp [*]; done)), H', ⟨Nat.le_refl _⟩, ⟨by repeat (first | (with_reducible first | exact HB.out | apply below_alloc | apply pw_below_drewN | apply below_drew1) | exact HB.out)⟩⟩
      case round =>
       clear H'
       try clear c2
       try clear c2b0
       try clear p2
       try clear c4
       try clear c4b0
       try clear c5
       try clear c5b0
       try clear p6
       try clear q6
       try clear hx6
       try clear hx635_0
       try clear p635
       try clear q635
       obtain ⟨x5_2, x6_2, rfl, rfl, HA, HK2, HB⟩ := hrel
       cases gk with
       | zero => exact absurd HA.out (by simp [offcutref01_Of.l1])
       | succ k2 =>
        have H := HA.out
        clear HA
        simp only [offcutref01_Of.l1] at H
        by_cases c7 : x5_2 > 0
        ·rw [if_pos c7] at H
         have c7b0 : decide (0 < x5_2) = true := decide_eq_true c7
         clear c7
         replace H := Option.bind_eq_some_iff.mp H
         obtain ⟨t636, A80, H⟩ := H
         try dsimp only at H
         have A8 := Aside0.mk A80
         clear A80
         by_cases c9 : t636.size + x6_2.size ≤ 9223372036854775807
         ·rw [if_pos c9] at H
          have c9b0 := eq_true c9
          have c9b1 : decide (t636.size + x6_2.size ≤ 9223372036854775807) = true := decide_eq_true c9
          try have c9b2 : (9223372036854775807 < t636.size + x6_2.size) = False := eq_false (Nat.not_lt.2 c9)
          have H' := Aside0.mk H
          clear H
          go_wp2_with (first | ((with_reducible refine gate_callee (f := 80) rfl ?_); refine Short.goesS_ (some 25) Try.func80 #[.int .i64 (wrap64 (Int.tmod x5_2 10))] ?_; (with_reducible refine (offcutref01_sign.calls (wrap64 (Int.tmod x5_2 10)) t636 _ A8.out).mono ?_); rintro e w' ⟨rfl, ⟨nd, rfl⟩⟩; refine ⟨_, rfl, ?_⟩))
          go_roundg k2
          case measure => have := HK1.out; have := HK2.out; omega
          case rel => exact ⟨((Int.tdiv x5_2 10) % 4294967296), (t636 ++ x6_2), (by first | rfl | (simp; done) | (simp [*]; done)), (by first | rfl | (simp; done) | (simp [*]; done)), H', ⟨by have := HK1.out; have := HK2.out; omega⟩, ⟨by repeat (first | (with_reducible first | exact HB.out | apply below_alloc | apply pw_below_drewN | apply below_drew1) | exact HB.out)⟩⟩
         ·rw [if_neg c9] at H
          exact absurd H (by simp)
        ·rw [if_neg c7] at H
         have c7b0 : decide (0 < x5_2) = false := decide_eq_false c7
         clear c7
         replace H := Option.bind_eq_some_iff.mp H
         obtain ⟨t637, A100, H⟩ := H
         try dsimp only at H
         have A10 := Aside0.mk A100
         clear A100
         replace H := Option.bind_eq_some_iff.mp H
         obtain ⟨t638, A110, H⟩ := H
         try dsimp only at H
         have A11 := Aside0.mk A110
         clear A110
         have H' := Aside0.mk H
         clear H
         go_wp2_with (first | ((with_reducible refine gate_callee (f := 81) rfl ?_); refine Short.goesS_ (some 32) Try.func81 #[.string x6_2] ?_; (with_reducible refine (offcutref01_cut.calls k2 x6_2 t637 _ A10.out).mono ?_); rintro e w' ⟨rfl, ⟨nd, rfl⟩⟩; refine ⟨_, rfl, ?_⟩) | ((with_reducible refine gate_callee (f := 56) rfl ?_); refine Short.goesS_ (some 33) Try.func56 #[.string t634, .string t637] ?_; (with_reducible refine (offcutref01_Add.calls k2 t634 t637 t638 _ A11.out).mono ?_); rintro e w' ⟨rfl, ⟨nd, rfl⟩⟩; refine ⟨_, rfl, ?_⟩))
         go_roundg k2
         case measure => have := HK1.out; have := HK2.out; omega
         case rel => exact ⟨(t638), (wrap64 (x4_1 - 1)), (by first | rfl | (simp; done) | (simp [*]; done)), (by first | rfl | (simp; done) | (simp [*]; done)), H', ⟨by have := HK1.out; have := HK2.out; omega⟩, ⟨by repeat (first | (with_reducible first | exact HB.out | apply below_alloc | apply pw_below_drewN | apply below_drew1) | exact HB.out)⟩⟩
     ·rw [if_neg c5] at H
      exact absurd H (by simp)
    ·rw [if_neg c4] at H
     exact absurd H (by simp)
   ·rw [if_neg c2] at H
    have c2b0 : decide (0 ≤ x4_1) = false := decide_eq_false c2
    clear c2
    obtain rfl := Option.some.inj H
    go_wp2
    go_ret
    exact ⟨by rfl, by repeat (first | (with_reducible first | exact HB.out | apply below_alloc | apply pw_below_drewN | apply below_drew1) | exact HB.out)⟩

/-- One word's digits; then what follows. -/
theorem offcutref01_Of.ev_w {l : List Int} {r : ByteArray} {M u : Nat} {i : Int} (hM : (Dec.dc M).length < 1000000000) (hu : u < 10000000000)
  (next : Ev (fun k => offcutref01_Of.l0 k l (Dec.dec (M + u)) (wrap64 (i - 1))) r) (d : Nat) : ∀ (n : Nat) (out : List Nat), n < 10 ^ d → out.length + d ≤ 10 → Dec.Ds out → Dec.dv out + 10 ^ out.length * n = u →
  Ev (fun k => offcutref01_Of.l1 k l (Dec.dec M) i (n : Int) (Dec.tx out)) r := by
 have stop : ∀ out : List Nat, Dec.Ds out → Dec.dv out = u → Ev (fun k => offcutref01_Of.l1 k l (Dec.dec M) i ((0 : Nat) : Int) (Dec.tx out)) r := by
  intro out ho hv
  refine Ev.step (f := fun k => (offcutref01_cut.f k (Dec.tx out)).bind fun t235 => ((offcutref01_Add.f k (Dec.dec M) t235).bind fun t236 => (offcutref01_Of.l0 k l t236 (wrap64 (i - 1))))) (fun k => ?_) ?_
  ·rw [offcutref01_Of.l1, if_neg (by omega)]
  ·refine Ev.bind (offcutref01_cut.ev ho) ?_
   rw [hv]
   have := offcutref01_Add.ev (Dec.Ds_dc M) (Dec.Ds_dc u) hM (Nat.lt_of_le_of_lt (Dec.dc_length_le (k := 10) (by omega) (by omega)) (by omega))
   rw [Dec.dv_dc, Dec.dv_dc] at this
   exact Ev.bind this next
 induction d with
 | zero =>
  intro n out hn hl ho hv
  obtain rfl : n = 0 := by rw [Nat.pow_zero] at hn; omega
  exact stop out ho (by omega)
 | succ d ih =>
  intro n out hn hl ho hv
  rcases Nat.eq_zero_or_pos n with h0 | h0
  ·subst h0
   exact stop out ho (by omega)
  ·have hnu : n < 10 ^ 10 := Nat.lt_of_lt_of_le hn (Nat.pow_le_pow_right (by omega) (by omega))
   have hnv : n < 10000000000 := hnu
   refine Ev.step (f := fun k => offcutref01_Of.l1 k l (Dec.dec M) i ((n / 10 : Nat) : Int) (Dec.tx (out ++ [n % 10]))) (fun k => ?_) ?_
   ·rw [offcutref01_Of.l1, if_pos (by omega), Dec.tmod10, Dec.tdiv10, Dec.w64n _ (by omega), offcutref01_sign.sem _ (Nat.mod_lt _ (by omega)), Option.bind_some, Dec.tx_append, Dec.tx_size, Dec.tx_size, if_pos (by rw [List.length_singleton]; omega), show ((n / 10 : Nat) : Int) % 4294967296 = ((n / 10 : Nat) : Int) from by omega]
   ·refine ih (n / 10) (out ++ [n % 10]) (by rw [Nat.pow_succ] at hn; omega) (by rw [List.length_append, List.length_singleton]; omega) (ho.snoc (Nat.mod_lt _ (by omega))) ?_
    rw [Dec.dv_snoc, List.length_append, List.length_singleton, Nat.pow_succ, ← hv]
    have h3 : 10 ^ out.length * n = 10 ^ out.length * (n % 10 + 10 * (n / 10)) := by congr 1; omega
    rw [Nat.mul_add, ← Nat.mul_assoc] at h3
    omega
theorem offcutref01_Of.ev_l {l : List Int} (hW : Num.Ws l) (hl : l.length < 10000000) : ∀ i, i ≤ l.length → Ev (fun k => offcutref01_Of.l0 k l (Dec.dec (Num.nv (l.drop i))) ((i : Int) - 1)) (Dec.dec (Num.nv l)) := by
 intro i
 induction i with
 | zero =>
  intro hi
  refine Ev.step (f := fun _ => some (Dec.dec (Num.nv (l.drop 0)))) (fun k => ?_) ?_
  ·rw [offcutref01_Of.l0, if_neg (by omega)]
  ·rw [List.drop_zero]
   exact Ev.now _
 | succ i ih =>
  intro hi
  have hb := Num.nv_lt (hW.drop (i + 1))
  rw [List.length_drop] at hb
  have hb2 : Num.nv (l.drop (i + 1)) < 2 ^ (32 * l.length) := Nat.lt_of_lt_of_le hb (Nat.pow_le_pow_right (by omega) (by omega))
  have hl1 := Dec.dc_len32 (by omega) hb2
  have hb3 : Num.nv (l.drop (i + 1)) * 4294967296 < 2 ^ (32 * (l.length + 1)) := by
   rw [Num.pow_succ32]
   exact Nat.mul_lt_mul_of_pos_right hb2 (by omega)
  have hl2 := Dec.dc_len32 (by omega) hb3
  have hw := hW.getD i
  obtain ⟨u, hu⟩ : ∃ u : Nat, (u : Int) = l.getD i 0 := ⟨(l.getD i 0).toNat, by omega⟩
  have hd : Num.nv (l.drop i) = Num.nv (l.drop (i + 1)) * 4294967296 + u := by
   rw [List.drop_eq_getElem_cons (by omega), Num.nv]
   have : l[i] = (u : Int) := by rw [hu, List.getD_eq_getElem?_getD, List.getElem?_eq_getElem (by omega)]; rfl
   rw [this, Int.toNat_natCast]
   omega
  have hm := offcutref01_Mul.ev (Dec.Ds_dc (Num.nv (l.drop (i + 1)))) Dec.Ds_2_32 (by omega) (by decide)
  rw [Dec.dv_dc, show Dec.dv [6, 9, 2, 7, 6, 9, 4, 9, 2, 4] = 4294967296 from rfl] at hm
  refine Ev.step (f := fun k => (offcutref01_Mul.f k (Dec.tx (Dec.dc (Num.nv (l.drop (i + 1))))) (Dec.tx [6, 9, 2, 7, 6, 9, 4, 9, 2, 4])).bind fun t232 => (offcutref01_Of.l1 k l t232 (i : Int) (u : Int) (Dec.tx []))) (fun k => ?_) (Ev.bind hm ?_)
  ·rw [offcutref01_Of.l0, show (((i + 1 : Nat) : Int) - 1) = (i : Int) from by omega, if_pos (by omega)]
   refine congrArg _ (funext fun t232 => ?_)
   rw [if_pos (by omega), if_pos (by omega), show rd l (i : Int) = (u : Int) from by rw [hu]; simp [rd]]
   rfl
  ·refine offcutref01_Of.ev_w (u := u) (by omega) (by omega) ?_ 10 u [] (by omega) (by decide) Dec.Ds.nil (by rw [List.length_nil, Dec.dv]; omega)
   rw [Dec.w64 (by omega) (by omega), ← hd]
   exact ih (by omega)
theorem offcutref01_Of.ev {l : List Int} (hW : Num.Ws l) (hl : l.length < 10000000) : Ev (fun k => offcutref01_Of.f k l) (Dec.dec (Num.nv l)) := by
 have := offcutref01_Of.ev_l hW hl l.length (Nat.le_refl _)
 rw [List.drop_length, Num.nv, Dec.dec_zero] at this
 refine Ev.congr (fun k => ?_) this
 unfold offcutref01_Of.f
 rw [Dec.w64 (by omega) (by omega)]
set_option synthInstance.checkSynthOrder false in
open Lin in
instance offcutref01_Of.t {k : Nat} {l0 : List Int} {r : ByteArray} [h : Ans (offcutref01_Of.f k l0) r] : Tl Try.prog 47 [.one (.row l0)] (.el (.one (.val (.string r)))) := ⟨Tells.of Try.func47 fun out w vs ho hl hv => by
 obtain ⟨u0, rfl, h0⟩ := args1 hl hv
 obtain ⟨A0, c0, rfl, hc0, hr0, hb0⟩ := h0
 refine (offcutref01_Of.calls k A0 c0 l0 _ w hr0 hc0 h.out).mono ?_
 rintro e w' ⟨rfl, hb⟩
 exact ⟨_, rfl, ⟨rfl, rfl⟩, hb⟩⟩
def offcutlaw03_Of.f (k : Nat) (a0_0 : Bool) (l0_1 : List Int) (l0_2 : List Int) : Option (ByteArray × ByteArray) := (offcutref01_Of.f k l0_2).bind fun t641 => (if t641.toList = ([48] : List UInt8) then ((offcutref01_Of.f k l0_1).bind fun t642 => ((offcutref02_Made.f a0_0 t642).bind fun t643 => ((offcutref03_Low.f k t643 (⟨#[49]⟩ : ByteArray)).bind fun bt644 => (some (bt644.1, bt644.2))))) else ((offcutref01_Of.f k l0_1).bind fun t646 => ((offcutref02_Made.f a0_0 t646).bind fun t647 => ((offcutref03_Low.f k t647 t641).bind fun bt648 => (some (bt648.1, bt648.2))))))
theorem offcutlaw03_Of.ev {m : Bool} {l1 l2 : List Int} {r : Rat} {K : Nat} (h : Qn.Is m l1 l2 r K) (hK1 : 1 ≤ K) (hK : K < 300000) : Ev (fun k => offcutlaw03_Of.f k m l1 l2) (Zn.tz r.num, Dec.dec r.den) := by
 have l1K := h.num.len
 have l2K := h.len
 have O1 := offcutref01_Of.ev h.num.ws (by omega)
 have O2 := offcutref01_Of.ev h.ws (by omega)
 have ln := Dec.dc_len32 hK1 (Num.nv_lt_of h.num.ws l1K)
 have Md := offcutref02_Made.sem m (Num.nv l1) (by omega)
 have L := offcutref03_Low.ev h.num.lt (Qn.dn_lt h.ws h.len hK1) (Qn.dn_ne _) hK1 (by omega)
 rw [h.val] at L
 unfold offcutlaw03_Of.f
 refine Ev.bind O2 ?_
 by_cases h0 : Num.nv l2 = 0
 ·have e : Qn.dn (Num.nv l2) = 1 := if_pos h0
  rw [e, Dec.dec_one] at L
  exact Dec.yes ((Dec.dec_is0 _).2 h0) (Ev.bind O1 (Dec.val (fun _ => Md) (Ev.bind L (Ev.now _))))
 ·rw [Qn.dn_self h0] at L
  exact Dec.no (fun e => h0 ((Dec.dec_is0 _).1 e)) (Ev.bind O1 (Dec.val (fun _ => Md) (Ev.bind L (Ev.now _))))
set_option synthInstance.checkSynthOrder false in
open Lin in
set_option maxHeartbeats 4000000 in
instance offcutlaw03_Of.t {k : Nat} {a0_0 : Bool} {l0_1 : List Int} {l0_2 : List Int} {r : ByteArray × ByteArray} [h : Ans (offcutlaw03_Of.f k a0_0 l0_1 l0_2) r] : Tl Try.prog 13 [.agg [.val (.bool a0_0), .row l0_1, .row l0_2]] (.el (.agg [.val (.string r.1), .val (.string r.2)])) := by
 have h := h.out
 unfold offcutlaw03_Of.f at h
 repeat' (first | (replace h := Lin.bndK h) | (replace h := Lin.bnd h; obtain ⟨_, _, h⟩ := h) | split at h | cases h)
 all_goals exact ⟨Tells.go Try.func13 Try.ntmps13⟩
theorem eqA34 (d : Nat) (w : World) (x0 y0 : ByteArray) (x1 y1 : ByteArray) :
    (Op.equalIn (d + 2) 34 (.agg #[.string x0, .string x1]) (.agg #[.string y0, .string y1])).run Try.prog w = .ok (x0.toList == y0.toList && (x1.toList == y1.toList)) w := by
  refine eqA_of Try.underlying34 (by kernel_rfl) ?_
  refine eqf_cons (by rfl) (by go_simp; rfl) (by go_simp; rfl) (by go_simp) ?_
  exact eqf_last (by rfl) (by go_simp; rfl) (by go_simp; rfl) (by go_simp)
def nat_Right.f (l0 : List Int) : Option (Bool) := if (l0.length : Int) = 0 then (some true) else (if 0 ≤ (wrap64 ((l0.length : Int) - 1)) then (if (wrap64 ((l0.length : Int) - 1)) < (l0.length : Int) then (some ((rd l0 (wrap64 ((l0.length : Int) - 1))) != 0)) else (none)) else (none))
set_option maxHeartbeats 8000000 in
set_option maxRecDepth 100000 in
theorem nat_Right.calls (A0 : Option Addr) (c0 : Nat) (l0 : List Int) (r : Bool) (w : World) (hr0 : Kd.C (Kd.int .u32) w A0 l0.length l0) (hc0 : l0.length ≤ c0) (h : nat_Right.f l0 = some r) :
  Calls Try.prog 78 #[.slice A0 l0.length c0] w fun e w' => e = .returned (.bool r) ∧ Drawn0 w w' := by
 have HR0 := Aside0.mk hr0
 have HC0 := Aside0.mk hc0
 clear hr0 hc0
 have H : (if (l0.length : Int) = 0 then (some true) else (if 0 ≤ (wrap64 ((l0.length : Int) - 1)) then (if (wrap64 ((l0.length : Int) - 1)) < (l0.length : Int) then (some ((rd l0 (wrap64 ((l0.length : Int) - 1))) != 0)) else (none)) else (none))) = some r := h
 clear h
 by_cases c2 : (l0.length : Int) = 0
 ·rw [if_pos c2] at H
  have c2b0 : ((l0.length : Int) == 0) = true := beq_iff_eq.mpr c2
  have c2b1 : ((l0.length : Int) != 0) = false := bne_eq_false_iff_eq.mpr c2
  clear c2
  obtain rfl := Option.some.inj H
  go_enter Try.func78, Try.ntmps78
  go_wp2
  go_ret
  exact ⟨by first | rfl | (simp; done) | (simp [*]; done), by repeat (first | exact Drawn0.refl _ | apply Drawn0.step)⟩
 ·rw [if_neg c2] at H
  have c2b0 : ((l0.length : Int) == 0) = false := beq_eq_false_iff_ne.mpr c2
  have c2b1 : ((l0.length : Int) != 0) = true := bne_iff_ne.mpr c2
  have c2b2 : ¬ (l0 = []) := fun h_ => c2 (by rw [h_]; rfl)
  obtain ⟨ji3, hji3⟩ : ∃ j_ : Int, (wrap64 ((l0.length : Int) - 1)) = j_ := ⟨_, rfl⟩
  replace H : (if 0 ≤ (ji3) then (if (ji3) < (l0.length : Int) then (some ((rd l0 (ji3)) != 0)) else (none)) else (none)) = some r := by first | (rw [hji3] at H; exact H) | (simp only [hji3] at H ⊢; exact H)
  have hji3w : (IntKind.i64.wrap ((l0.length : Int) - 1)) = ji3 := (i64_w _).trans hji3
  by_cases c4 : 0 ≤ (ji3)
  ·rw [if_pos c4] at H
   have c4b0 : decide (0 ≤ (ji3)) = true := decide_eq_true c4
   clear c4
   by_cases c5 : (ji3) < (l0.length : Int)
   ·rw [if_pos c5] at H
    have c5b0 : decide ((ji3) < (l0.length : Int)) = true := decide_eq_true c5
    clear c5
    obtain rfl := Option.some.inj H
    have p566 : 0 ≤ ((ji3) : Int) := of_decide_eq_true (by first | (with_reducible assumption) | assumption)
    have q566 : (ji3) < (l0.length : Int) := of_decide_eq_true (by first | (with_reducible assumption) | assumption)
    obtain ⟨ad566, e566, hx566_0⟩ := Kd.at_int HR0.out (ji3) p566 q566
    cases e566
    replace p566 := eq_true p566
    replace q566 := eq_true q566
    go_enter Try.func78, Try.ntmps78
    go_wp2
    go_ret
    exact ⟨by first | rfl | (simp; done) | (simp only [← hji3] <;> (first | rfl | simp)) | (simp [*]; done), by repeat (first | exact Drawn0.refl _ | apply Drawn0.step)⟩
   ·rw [if_neg c5] at H
    exact absurd H (by simp)
  ·rw [if_neg c4] at H
   exact absurd H (by simp)

theorem nat_Right.sem {l : List Int} (h : 0 < l.length) (hl : l.length < 9223372036854775807) : nat_Right.f l = some (rd l (wrap64 ((l.length : Int) - 1)) != 0) := by
 unfold nat_Right.f
 have e := Dec.w64p l.length h (by omega)
 rw [if_neg (by omega), if_pos (by rw [e]; omega), if_pos (by rw [e]; omega)]
theorem nat_Right.nd {n : Nat} (hn : (Num.nd n).length < 9223372036854775807) : nat_Right.f (Num.nd n) = some true := by
 by_cases h : n = 0
 ·subst h
  rw [Num.nd_zero]
  rfl
 ·have h1 := Num.nd_last h
  have h2 : 0 < (Num.nd n).length := by
   rcases Nat.eq_zero_or_pos (Num.nd n).length with h0 | h0
   ·exact absurd (Num.nd_eq_nil.1 (List.eq_nil_of_length_eq_zero h0)) h
   ·exact h0
  rw [nat_Right.sem h2 hn, Dec.w64p _ h2 (by omega)]
  unfold rd
  rw [Int.toNat_natCast]
  congr 1
  simpa using h1
set_option synthInstance.checkSynthOrder false in
open Lin in
instance nat_Right.t {l0 : List Int} {r : Bool} [h : Ans (nat_Right.f l0) r] : Tl Try.prog 78 [.one (.row l0)] (.el (.one (.val (.bool r)))) := ⟨Tells.of Try.func78 fun out w vs ho hl hv => by
 obtain ⟨u0, rfl, h0⟩ := args1 hl hv
 obtain ⟨A0, c0, rfl, hc0, hr0, hb0⟩ := h0
 refine (nat_Right.calls A0 c0 l0 _ w hr0 hc0 h.out).mono ?_
 rintro e w' ⟨rfl, hb⟩
 exact ⟨_, rfl, ⟨rfl, rfl⟩, below_of_drawn hb⟩⟩
def whole_Right.f (a0_0 : Bool) (l0_1 : List Int) : Option (Bool) := (nat_Right.f l0_1).bind fun t568 => (if t568 = true then (if a0_0 = true then (some (decide ((l0_1.length : Int) > 0))) else (some true)) else (some false))
theorem whole_Right.zd {z : Int} {K : Nat} (h : z.natAbs < 2 ^ (32 * K)) (hK : K < 1000000) : whole_Right.f (Zn.zd z).1 (Zn.zd z).2 = some true := by
 have hn : (Num.nd z.natAbs).length < 9223372036854775807 := Nat.lt_of_le_of_lt (Num.nd_length_le h) (by omega)
 unfold whole_Right.f
 show (nat_Right.f (Num.nd z.natAbs)).bind (fun t => if t = true then (if decide (z < 0) = true then some (decide (((Num.nd z.natAbs).length : Int) > 0)) else some true) else some false) = some true
 rw [nat_Right.nd hn, Option.bind_some, if_pos rfl]
 by_cases hz : z < 0
 ·have := (Zn.nd_len_pos z.natAbs).2 (by omega)
  rw [if_pos (decide_eq_true hz), decide_eq_true (by omega)]
 ·rw [if_neg (by rw [decide_eq_false hz]; decide)]
set_option synthInstance.checkSynthOrder false in
open Lin in
set_option maxHeartbeats 4000000 in
instance whole_Right.t {a0_0 : Bool} {l0_1 : List Int} {r : Bool} [h : Ans (whole_Right.f a0_0 l0_1) r] : Tl Try.prog 77 [.agg [.val (.bool a0_0), .row l0_1]] (.el (.one (.val (.bool r)))) := by
 have h := h.out
 unfold whole_Right.f at h
 repeat' (first | (replace h := Lin.bndK h) | (replace h := Lin.bnd h; obtain ⟨_, _, h⟩ := h) | split at h | cases h)
 all_goals exact ⟨Tells.go Try.func77 Try.ntmps77⟩
def rat_Right.f (k : Nat) (a0_0 : Bool) (l0_1 : List Int) (l0_2 : List Int) : Option (Bool) := (whole_Right.f a0_0 l0_1).bind fun t570 => (if t570 = true then ((nat_Right.f l0_2).bind fun t571 => (if t571 = true then (if (l0_2.length : Int) > 0 then ((nat_Gcd.f k l0_1 l0_2).bind fun t572 => ((nat_Of.f k 1).bind fun t575 => ((nat_Compare.f k t572 t575).bind fun t578 => (some (t578 == 0))))) else (some false)) else (some false))) else (some false))
theorem rat_Right.qd {r : Rat} {K : Nat} (h : Qn.Sm r K) (hK : K < 300000) : Ev (fun k => rat_Right.f k (Qn.qd r).1 (Qn.qd r).2.1 (Qn.qd r).2.2) true := by
 have hn : (Num.nd r.den).length < 9223372036854775807 := Nat.lt_of_le_of_lt (Num.nd_length_le h.den) (by omega)
 have G := nat_Gcd.ev (K := K) (by omega) (Num.Ws_nd r.num.natAbs) (Num.Ws_nd r.den) (Num.nd_length_le h.num) (Num.nd_length_le h.den)
 rw [Num.nv_nd, Num.nv_nd, r.reduced] at G
 have o1 := Num.ok_nd (n := 1) (k := 1) (by decide) (by omega)
 have C : ∀ k, nat_Compare.f k (Num.nd 1) (Num.nd 1) = some 0 := fun k => by unfold nat_Compare.f; rw [if_pos o1, if_pos o1, Num.cmp_eq rfl]
 have hp := (Zn.nd_len_pos r.den).2 r.den_nz
 have W := whole_Right.zd h.num (by omega)
 unfold rat_Right.f
 exact Dec.val (fun _ => W) (Dec.yes rfl (Dec.val (fun _ => nat_Right.nd hn) (Dec.yes rfl (Dec.yes (show ((Num.nd r.den).length : Int) > 0 by omega) (Ev.bind G (Ev.bind (nat_Of.ev 1 (by omega)) (Dec.val C (Ev.now _))))))))
set_option synthInstance.checkSynthOrder false in
open Lin in
set_option maxHeartbeats 4000000 in
instance rat_Right.t {k : Nat} {a0_0 : Bool} {l0_1 : List Int} {l0_2 : List Int} {r : Bool} [h : Ans (rat_Right.f k a0_0 l0_1 l0_2) r] : Tl Try.prog 44 [.agg [.val (.bool a0_0), .row l0_1, .row l0_2]] (.el (.one (.val (.bool r)))) := by
 have h := h.out
 unfold rat_Right.f at h
 repeat' (first | (replace h := Lin.bndK h) | (replace h := Lin.bnd h; obtain ⟨_, _, h⟩ := h) | split at h | cases h)
 all_goals exact ⟨Tells.go Try.func44 Try.ntmps44⟩
section
attribute [local go_sem high] eqA34
def offcutlaw03_Is.f (k : Nat) (a0_0 : Bool) (l0_1 : List Int) (l0_2 : List Int) (a1_0 : ByteArray) (a1_1 : ByteArray) : Option (Bool) := if (l0_2.length : Int) > 0 then ((rat_Right.f k a0_0 l0_1 l0_2).bind fun t652 => (if t652 = true then ((offcutlaw03_Of.f k a0_0 l0_1 l0_2).bind fun bt653 => (some (bt653.1.toList == a1_0.toList && (bt653.2.toList == a1_1.toList)))) else (some false))) else (some false)
theorem offcutlaw03_Is.ev {r s : Rat} {K : Nat} (h : Qn.Sm r K) (hK1 : 1 ≤ K) (hK : K < 300000) : Ev (fun k => offcutlaw03_Is.f k (Qn.qd r).1 (Qn.qd r).2.1 (Qn.qd r).2.2 (Zn.tz s.num) (Dec.dec s.den)) (decide (r = s)) := by
 have hp := (Zn.nd_len_pos r.den).2 r.den_nz
 unfold offcutlaw03_Is.f
 refine Dec.yes (show ((Num.nd r.den).length : Int) > 0 by omega) (Ev.bind (rat_Right.qd h hK) (Dec.yes rfl (Ev.bind (offcutlaw03_Of.ev (Qn.Is.qd h) hK1 hK) ?_)))
 have e : ((Zn.tz r.num).toList == (Zn.tz s.num).toList && ((Dec.dec r.den).toList == (Dec.dec s.den).toList)) = decide (r = s) := by
  rw [Zn.tz_beq, Dec.dec_beq, ← Bool.decide_and]
  exact decide_eq_decide.2 ⟨fun e => Rat.ext e.1 e.2, fun e => by rw [e]; exact ⟨rfl, rfl⟩⟩
 rw [← e]
 exact Ev.now _
set_option synthInstance.checkSynthOrder false in
open Lin in
set_option maxHeartbeats 4000000 in
instance offcutlaw03_Is.t {k : Nat} {a0_0 : Bool} {l0_1 : List Int} {l0_2 : List Int} {a1_0 : ByteArray} {a1_1 : ByteArray} {r : Bool} [h : Ans (offcutlaw03_Is.f k a0_0 l0_1 l0_2 a1_0 a1_1) r] : Tl Try.prog 15 [.agg [.val (.bool a0_0), .row l0_1, .row l0_2], .agg [.val (.string a1_0), .val (.string a1_1)]] (.el (.one (.val (.bool r)))) := by
 have h := h.out
 unfold offcutlaw03_Is.f at h
 repeat' (first | (replace h := Lin.bndK h) | (replace h := Lin.bnd h; obtain ⟨_, _, h⟩ := h) | split at h | cases h)
 all_goals exact ⟨Tells.go Try.func15 Try.ntmps15⟩
end
section
open Lin
/-- What a text is cut into. -/
inductive Cuts (s : ByteArray) : ByteArray → ByteArray → Prop
  | some {i : Nat} (h : First s i) (hs : s.size < 1000000) : Cuts s (s.extract 0 i) (s.extract (i + 1) s.size)
  | none (h : ∀ j, j < s.size → s[j]! ≠ 47) : Cuts s s ⟨#[49]⟩
/-- What comes of both parts of a text. -/
inductive Outc (a b : ByteArray) : Bool → List Int → List Int → Int → Prop
  | bad {k k2 : Nat} {m : Bool} {l l2 : List Int} {e e2 : Int} (A : Ans (whole_Parse.f k a) (m, l, e)) (B : Ans (nat_Parse.f k2 b) (l2, e2)) (he : (e != 0) = true) : Outc a b false [] [] e
  | low {k k2 : Nat} {m : Bool} {l l2 : List Int} {e : Int} (A : Ans (whole_Parse.f k a) (m, l, 0)) (B : Ans (nat_Parse.f k2 b) (l2, e)) (he : (e != 0) = true) : Outc a b false [] [] e
  | zero {k k2 k3 : Nat} {m : Bool} {l l2 : List Int} (A : Ans (whole_Parse.f k a) (m, l, 0)) (B : Ans (nat_Parse.f k2 b) (l2, 0)) (C : Ans (nat_Bits.f k3 l2) 0) : Outc a b false [] [] 5
  | good {k k2 k3 k4 k5 k6 : Nat} {m : Bool} {l l2 : List Int} {n : Int} {q : Bool × List Int × List Int} {o : ByteArray × ByteArray} (A : Ans (whole_Parse.f k a) (m, l, 0)) (B : Ans (nat_Parse.f k2 b) (l2, 0)) (C : Ans (nat_Bits.f k3 l2) n) (hn : (n == 0) = false) (M : Ans (rat_Make.f k4 m l l2) q) (O : Ans (offcutlaw03_Of.f k5 m l l2) o) (I : Ans (offcutlaw03_Is.f k6 q.1 q.2.1 q.2.2 o.1 o.2) true) : Outc a b q.1 q.2.1 q.2.2 0
set_option maxHeartbeats 4000000 in
theorem parse_t {s a b : ByteArray} {m : Bool} {l1 l2 : List Int} {e : Int} (c : Cuts s a b) (o : Outc a b m l1 l2 e) : Tl Try.prog 39 [.one (.val (.string s))] (.tup [.agg [.val (.bool m), .row l1, .row l2], .one (.val (.int .i64 e))]) := by
  cases c with
  | some h hs =>
    have I := cut_some h hs
    cases o with
    | bad A B he => exact ⟨Tells.goS Try.func39 Try.ntmps39⟩
    | low A B he => exact ⟨Tells.goS Try.func39 Try.ntmps39⟩
    | zero A B C => exact ⟨Tells.goS Try.func39 Try.ntmps39⟩
    | good A B C hn M O E => exact ⟨Tells.goS Try.func39 Try.ntmps39⟩
  | none h =>
    have I := cut_none h
    cases o with
    | bad A B he => exact ⟨Tells.goS Try.func39 Try.ntmps39⟩
    | low A B he => exact ⟨Tells.goS Try.func39 Try.ntmps39⟩
    | zero A B C => exact ⟨Tells.goS Try.func39 Try.ntmps39⟩
    | good A B C hn M O E => exact ⟨Tells.goS Try.func39 Try.ntmps39⟩
end
def offcutlaw03_few.f (a0_0 : Bool) (l0_1 : List Int) (l0_2 : List Int) : Option (Bool) := if (l0_1.length : Int) ≤ 4 then (some (decide ((l0_2.length : Int) ≤ 4))) else (some false)
set_option synthInstance.checkSynthOrder false in
open Lin in
set_option maxHeartbeats 4000000 in
instance offcutlaw03_few.t {a0_0 : Bool} {l0_1 : List Int} {l0_2 : List Int} {r : Bool} [h : Ans (offcutlaw03_few.f a0_0 l0_1 l0_2) r] : Tl Try.prog 10 [.agg [.val (.bool a0_0), .row l0_1, .row l0_2]] (.el (.one (.val (.bool r)))) := by
 have h := h.out
 unfold offcutlaw03_few.f at h
 repeat' (first | (replace h := Lin.bndK h) | (replace h := Lin.bnd h; obtain ⟨_, _, h⟩ := h) | split at h | cases h)
 all_goals exact ⟨Tells.go Try.func10 Try.ntmps10⟩
def slices_Reverse_byte_byte.l0 : Nat → List Int → Int → Int → Option (List Int)
 | 0, _, _, _ => none
 | k + 1, x0, x2, x3 => if x2 < x3 then (if 0 ≤ x3 then (if x3 < (x0.length : Int) then (if 0 ≤ x2 then (if x2 < (x0.length : Int) then (slices_Reverse_byte_byte.l0 k ((x0.set (x2 : Int).toNat (rd x0 x3)).set (x3 : Int).toNat (rd x0 x2)) (wrap64 (x2 + 1)) (wrap64 (x3 - 1))) else (none)) else (none)) else (none)) else (none)) else (some x0)
def slices_Reverse_byte_byte.f (k : Nat) (l0 : List Int) : Option (List Int) := slices_Reverse_byte_byte.l0 k l0 0 (wrap64 ((l0.length : Int) - 1))
def slices_Reverse_byte_byte.T3 : Bool × List (List Nat × List Nat) := (true, [([], []), ([], []), ([], []), ([], []), ([], []), ([], []), ([4, 5], [4, 5]), ([6], [6]), ([], []), ([], []), ([8, 9], [8, 9]), ([10], [10]), ([0, 1, 0, 1, 4, 5, 6, 7, 11], [0, 1]), ([12, 7, 0, 1, 4, 5, 6, 7, 11], [7, 12]), ([2, 3, 0, 1, 2, 3, 4, 5, 6, 7, 8, 9, 10, 11, 12, 13], [2, 3]), ([14, 11, 13, 0, 1, 2, 3, 4, 5, 6, 7, 8, 9, 10, 11, 12, 13], [11, 14])])
def slices_Reverse_byte_byte.B3 : List Nat := [0, 0, 0, 0, 0, 0, 48, 112, 0, 0, 768, 1792, 4083, 8179, 16383, 32767]
theorem slices_Reverse_byte_byte.tab3 : rtab .any (opsOf Try.f84 3) = slices_Reverse_byte_byte.T3 := by kernel_rfl
theorem slices_Reverse_byte_byte.bits3 : waitsOk slices_Reverse_byte_byte.T3.2 slices_Reverse_byte_byte.B3 = true := by kernel_rfl
set_option maxHeartbeats 8000000 in
set_option maxRecDepth 100000 in
theorem slices_Reverse_byte_byte.calls (k : Nat) (P0_ : Nat → Prop) (u9000_ : Value) (l0 : List Int) (r : List Int) (w0 w : World) (hB : Below w0.heap.size w0 w) (ho0 : Kd.R (Kd.int .u8) 5 w w0.heap.size P0_ u9000_ l0) (h : slices_Reverse_byte_byte.f k l0 = some r) :
  Calls Try.prog 84 #[u9000_] w fun e w' => e = .returned (.tuple #[]) ∧ Kd.R (Kd.int .u8) 5 w' w0.heap.size (fun k_ => (P0_ k_ ∨ w.heap.size ≤ k_)) u9000_ r ∧ Below w0.heap.size w0 w' ∧ Kept w w' (fun k_ => P0_ k_) := by
 have HO0 := Aside0.mk (show Kd.R (Kd.int .u8) 5 w w0.heap.size (fun k_ => (P0_ k_ ∨ w.heap.size ≤ k_)) u9000_ l0 from Kd.R_mono ho0 (fun k_ hk => (.inl hk)))
 have HK := Aside0.mk (Kept.refl w (fun k_ => P0_ k_))
 have HW0 := Aside0.mk hB.size
 have HB := Aside0.mk hB
 clear hB
 have H : (slices_Reverse_byte_byte.l0 k l0 0 (wrap64 ((l0.length : Int) - 1))) = some r := h
 clear h
 have H' := Aside0.mk H
 clear H
 obtain ⟨Ao2, co2, eo2⟩ := Kd.R_slice HO0.out
 subst eo2
 go_enter Try.func84, Try.ntmps84
 go_wp2
 go_loopg [2, 3] k (fun kq v2 v3 w' => ∃ (x0_1 : List Int) (x2_1 : Int) (x3_1 : Int), v2 = .int .i64 x2_1 ∧ v3 = .int .i64 x3_1 ∧ Aside0 (slices_Reverse_byte_byte.l0 kq x0_1 x2_1 x3_1 = some r) ∧ Aside0 (kq ≤ k) ∧ Aside0 (Kd.R (Kd.int .u8) 5 w' w0.heap.size (fun k_ => (P0_ k_ ∨ w.heap.size ≤ k_)) (.slice Ao2 l0.length co2) x0_1) ∧ Aside0 (Kept w w' (fun k_ => P0_ k_)) ∧ Aside0 (Below w0.heap.size w0 w'))
 case atStart => exact ⟨(l0), (0), (wrap64 ((l0.length : Int) - 1)), (by first | rfl | (simp; done) | (simp [*]; done)), (by first | rfl | (simp; done) | (simp [*]; done)), H', ⟨Nat.le_refl _⟩, ⟨by (with_reducible repeat (first | apply Kd.R_alloc | apply Kd.R_drewN | apply Kd.R_drew)); exact HO0.out⟩, ⟨by repeat (first | (with_reducible first | exact HK.out | apply Kept.alloc | apply Kept.drewN | apply Kept.drew) | exact HK.out)⟩, ⟨by repeat (first | (with_reducible first | exact HB.out | apply below_alloc | apply pw_below_drewN | apply below_drew1) | exact HB.out)⟩⟩
 case round =>
  clear H'
  try clear p2
  obtain ⟨x0_1, x2_1, x3_1, rfl, rfl, HA, HK1, HO_0, HK, HB⟩ := hrel
  have hl0_1 := (Kd.R_reads' HO_0.out).1
  rw [hl0_1] at HO_0
  (try simp only [hl0_1])
  cases gk with
  | zero => exact absurd HA.out (by simp [slices_Reverse_byte_byte.l0])
  | succ k1 =>
   have H := HA.out
   clear HA
   simp only [slices_Reverse_byte_byte.l0] at H
   by_cases c3 : x2_1 < x3_1
   ·rw [if_pos c3] at H
    have c3b0 : decide (x2_1 < x3_1) = true := decide_eq_true c3
    clear c3
    by_cases c4 : 0 ≤ x3_1
    ·rw [if_pos c4] at H
     have c4b0 : decide (0 ≤ x3_1) = true := decide_eq_true c4
     clear c4
     by_cases c5 : x3_1 < (x0_1.length : Int)
     ·rw [if_pos c5] at H
      have c5b0 : decide (x3_1 < (x0_1.length : Int)) = true := decide_eq_true c5
      clear c5
      by_cases c6 : 0 ≤ x2_1
      ·rw [if_pos c6] at H
       have c6b0 : decide (0 ≤ x2_1) = true := decide_eq_true c6
       clear c6
       by_cases c7 : x2_1 < (x0_1.length : Int)
       ·rw [if_pos c7] at H
        have c7b0 : decide (x2_1 < (x0_1.length : Int)) = true := decide_eq_true c7
        clear c7
        obtain ⟨y190, hy190⟩ : ∃ y_ : List Int, y_ = (x0_1.set (x2_1 : Int).toNat (rd x0_1 x3_1)) := ⟨_, rfl⟩
        replace H : (slices_Reverse_byte_byte.l0 k1 (y190.set (x3_1 : Int).toNat (rd x0_1 x2_1)) (wrap64 (x2_1 + 1)) (wrap64 (x3_1 - 1))) = some r := by first | (rw [hy190]; with_reducible exact H) | (have H2_ := (Option.bind_some _ _).symm.trans H; rw [hy190]; with_reducible exact H2_) | (have H2_ := (Option.bind_some _ _).symm.trans H; with_reducible exact H2_) | with_reducible exact H | (rw [hy190]; exact H) | exact H
        have Ny190 := Aside0.mk hy190
        clear hy190
        obtain ⟨y191, hy191⟩ : ∃ y_ : List Int, y_ = (y190.set (x3_1 : Int).toNat (rd x0_1 x2_1)) := ⟨_, rfl⟩
        replace H : (slices_Reverse_byte_byte.l0 k1 y191 (wrap64 (x2_1 + 1)) (wrap64 (x3_1 - 1))) = some r := by first | (rw [hy191]; with_reducible exact H) | (have H2_ := (Option.bind_some _ _).symm.trans H; rw [hy191]; with_reducible exact H2_) | (have H2_ := (Option.bind_some _ _).symm.trans H; with_reducible exact H2_) | with_reducible exact H | (rw [hy191]; exact H) | exact H
        have Ny191 := Aside0.mk hy191
        clear hy191
        have H' := Aside0.mk H
        clear H
        try go_wp2
        replace HO_0 := Aside0.mk (Kd.R_drew HO_0.out)
        replace HK := Aside0.mk (Kept.drew HK.out)
        replace HB := Aside0.mk (below_drew1 HB.out)
        have p188 : 0 ≤ (x3_1 : Int) := of_decide_eq_true (by first | (with_reducible assumption) | assumption)
        have q188 : x3_1 < (x0_1.length : Int) := of_decide_eq_true (by first | (with_reducible assumption) | assumption)
        obtain ⟨ad188, e188, hx188_0⟩ := Kd.at_int (Kd.R_reads' HO_0.out).2.2 x3_1 p188 q188
        cases e188
        replace p188 := eq_true p188
        replace q188 := eq_true q188
        have p189 : 0 ≤ (x2_1 : Int) := of_decide_eq_true (by first | (with_reducible assumption) | assumption)
        have q189 : x2_1 < (x0_1.length : Int) := of_decide_eq_true (by first | (with_reducible assumption) | assumption)
        obtain ⟨ad189, e189, hx189_0⟩ := Kd.at_int (Kd.R_reads' HO_0.out).2.2 x2_1 p189 q189
        obtain rfl : ad188 = ad189 := (by injection e189)
        replace p189 := eq_true p189
        replace q189 := eq_true q189
        have p8 : 0 ≤ (x2_1 : Int) := of_decide_eq_true (by first | (with_reducible assumption) | assumption)
        have q8 : (x2_1 : Int) < ((x0_1.length : Int) : Int) := of_decide_eq_true (by first | (with_reducible assumption) | assumption)
        obtain ⟨go8, co8, eo8, gb8, gl8, cl8, HG8⟩ := Kd.R_form HO_0.out (by omega)
        (first | cases eo8 | (injection eo8 with ea_ en_ ec_; (first | subst ea_ | (injection ea_ with ea_; subst ea_)); subst ec_; clear en_))
        have GB8 := Aside0.mk gb8
        have GG8 := Aside0.mk HG8
        clear gb8 gl8 HG8
        have HMgo8 := Aside0.mk (show (P0_ go8 ∨ w.heap.size ≤ go8) from (HO_0.out.1 _ rfl))
        (first | simp only [add_plain] at hx188_0 | skip)
        (first | simp only [add_plain] at hx189_0 | skip)
        obtain ⟨hx8_0, hf8_0⟩ := Kd.R_celln 0 HO_0.out (x2_1 : Int) p8 q8
        replace p8 := eq_true p8
        replace q8 := eq_true q8
        have HP11 := Kd.R_putn HO_0.out (x2_1 : Int) (rd x0_1 x3_1)
        rw [← Ny190.out] at HP11
        have HQ11 := Aside0.mk HP11
        clear HP11
        have p9 : 0 ≤ (x3_1 : Int) := of_decide_eq_true (by first | (with_reducible assumption) | assumption)
        have q9 : (x3_1 : Int) < ((x0_1.length : Int) : Int) := of_decide_eq_true (by first | (with_reducible assumption) | assumption)
        obtain ⟨hx9_0, hf9_0⟩ := Kd.R_celln 0 HQ11.out (x3_1 : Int) p9 q9
        replace p9 := eq_true p9
        replace q9 := eq_true q9
        have HP12 := Kd.R_putn HQ11.out (x3_1 : Int) (rd x0_1 x2_1)
        rw [← Ny191.out] at HP12
        have HQ12 := Aside0.mk HP12
        clear HP12
        refine start_ (n := 16) (S := fun w' => w'.cell? ⟨go8, (x3_1).toNat, none⟩ = some (.int .u8 (rd x0_1 x3_1)) ∧ w'.cell? ⟨go8, (x2_1).toNat, none⟩ = some (.int .u8 (rd x0_1 x2_1))) (ds := [13, 15]) #[false, false, false, false, false, false, false, false, false, false, false, false, false, false, false, false] (by kernel_rfl) rfl rfl ⟨hx188_0, hx189_0⟩ (fun hHeld => ?_); refine with_tabW slices_Reverse_byte_byte.tab3 slices_Reverse_byte_byte.bits3 (fun HT_ HW_ => ?_)
        generalize wr.drew = w10 at HO_0 HK HB GG8 HQ11 HQ12 hf8_0 hf9_0 hx188_0 hx189_0 hx8_0 hx9_0 hHeld ⊢
        refine Short.pureS_ (i := 0) (N := some 14) #[true, false, false, false, false, false, false, false, false, false, false, false, false, false, false, false] (any_of HT_.out (by kernel_rfl)) ?_
        refine Short.pureS_ (i := 1) (N := some 15) #[true, true, false, false, false, false, false, false, false, false, false, false, false, false, false, false] (any_of HT_.out (by kernel_rfl)) ?_
        refine Short.pureS_ (i := 2) (N := some 16) #[true, true, true, false, false, false, false, false, false, false, false, false, false, false, false, false] (any_of HT_.out (by kernel_rfl)) ?_
        refine Short.pureS_ (i := 3) (N := some 17) #[true, true, true, true, false, false, false, false, false, false, false, false, false, false, false, false] (any_of HT_.out (by kernel_rfl)) ?_
        refine Short.pureS_ (i := 4) (N := some 18) #[true, true, true, true, true, false, false, false, false, false, false, false, false, false, false, false] (any_of HT_.out (by kernel_rfl)) ?_
        refine Short.pureS_ (i := 5) (N := some 19) #[true, true, true, true, true, true, false, false, false, false, false, false, false, false, false, false] (any_of HT_.out (by kernel_rfl)) ?_
        refine Short.pureS_ (i := 6) (N := some 20) #[true, true, true, true, true, true, true, false, false, false, false, false, false, false, false, false] (any_of HT_.out (by kernel_rfl)) ?_
        refine Short.pureS_ (i := 8) (N := some 22) #[true, true, true, true, true, true, true, false, true, false, false, false, false, false, false, false] (any_of HT_.out (by kernel_rfl)) ?_
        refine Short.pureS_ (i := 9) (N := some 23) #[true, true, true, true, true, true, true, false, true, true, false, false, false, false, false, false] (any_of HT_.out (by kernel_rfl)) ?_
        refine Short.pureS_ (i := 10) (N := some 24) #[true, true, true, true, true, true, true, false, true, true, true, false, false, false, false, false] (any_of HT_.out (by kernel_rfl)) ?_
        refine Short.takeS_ (i := 7) (N := some 21) #[true, true, true, true, true, true, true, true, true, true, true, false, false, false, false, false] (take_ofW HT_.out HW_.out (by kernel_rfl)) hHeld ?_
        refine Short.takeS_ (i := 11) (N := some 25) #[true, true, true, true, true, true, true, true, true, true, true, true, false, false, false, false] (take_ofW HT_.out HW_.out (by kernel_rfl)) hHeld ?_
        refine Short.pureS_ (i := 12) (N := some 26) #[true, true, true, true, true, true, true, true, true, true, true, true, true, false, false, false] (any_of HT_.out (by kernel_rfl)) ?_
        refine last_ (i := 13) (N := none) #[true, true, true, true, true, true, true, true, true, true, true, true, true, true, false, false] rfl rfl (one_of HT_.out (by kernel_rfl)) (by decide) (fun K hK => ?_)
        refine skip_ (w1 := ?_) (by rfl) rfl ?_ ?_
        rotate_left
        ·go_simp
         rfl
        refine hK.out _ _ ?_
        clear hK K
        refine Short.pureS_ (i := 14) (N := some 27) #[true, true, true, true, true, true, true, true, true, true, true, true, true, true, true, false] (any_of HT_.out (by kernel_rfl)) ?_
        refine last_ (i := 15) (N := none) #[true, true, true, true, true, true, true, true, true, true, true, true, true, true, true, true] rfl rfl (one_of HT_.out (by kernel_rfl)) (by decide) (fun K hK => ?_)
        refine skip_ (w1 := ?_) (by rfl) rfl ?_ ?_
        rotate_left
        ·go_simp
         rfl
        refine hK.out _ _ ?_
        clear hK K
        refine done_ (done_of HT_.out (by kernel_rfl)) ?_
        try go_wp2
        (try simp only [← hl0_1])
        go_roundg k1
        case measure => have := HK1.out; omega
        case rel => exact ⟨(y191), (wrap64 (x2_1 + 1)), (wrap64 (x3_1 - 1)), (by first | rfl | (simp; done) | (simp [*]; done)), (by first | rfl | (simp; done) | (simp [*]; done)), H', ⟨by have := HK1.out; omega⟩, ⟨by (try simp only [hl0_1]); (with_reducible repeat (first | apply Kd.R_alloc | apply Kd.R_drewN | apply Kd.R_drew)); exact HQ12.out⟩, ⟨by repeat (first | (with_reducible first | exact HK.out | apply Kept.alloc | apply Kept.drewN | apply Kept.drew | refine Kept.setCell ?_ HMgo8.out _ | refine Kept.setCell ?_ HMgo8.out _) | exact HK.out)⟩, ⟨by repeat (first | (with_reducible first | exact HB.out | apply below_alloc | apply pw_below_drewN | apply below_drew1 | refine below_set ?_ GB8.out | refine below_set ?_ GB8.out) | exact HB.out)⟩⟩
       ·rw [if_neg c7] at H
        exact absurd H (by simp)
      ·rw [if_neg c6] at H
       exact absurd H (by simp)
     ·rw [if_neg c5] at H
      exact absurd H (by simp)
    ·rw [if_neg c4] at H
     exact absurd H (by simp)
   ·rw [if_neg c3] at H
    have c3b0 : decide (x2_1 < x3_1) = false := decide_eq_false c3
    clear c3
    obtain rfl := Option.some.inj H
    go_wp2
    first | go_end0 | ((try simp only [Exit.inBlock, Exit.then]); refine bodyPost_ret (results_none rfl _ _ _) rfl ?_)
    exact ⟨by rfl, (by first | exact HO_0.out | (simp only [hl0_1]; exact HO_0.out)), by repeat (first | (with_reducible first | exact HB.out | apply below_alloc | apply pw_below_drewN | apply below_drew1) | exact HB.out), by repeat (first | (with_reducible first | exact HK.out | apply Kept.alloc | apply Kept.drewN | apply Kept.drew) | exact HK.out)⟩

theorem slices_Reverse_byte_byte.ev_l {l : List Int} (hl : l.length < 9223372036854775807) (d : Nat) : ∀ (y : List Int) (i : Nat), i ≤ l.length → l.length - 2 * i ≤ d → y.length = l.length → (∀ p, p < l.length → y.getD p 0 = if p < i ∨ l.length < p + 1 + i then l.getD (l.length - 1 - p) 0 else l.getD p 0) →
  Ev (fun k => slices_Reverse_byte_byte.l0 k y (i : Int) ((l.length : Int) - 1 - (i : Int))) l.reverse := by
 have stop : ∀ (y : List Int) (i : Nat), i ≤ l.length → l.length ≤ 2 * i + 1 → y.length = l.length → (∀ p, p < l.length → y.getD p 0 = if p < i ∨ l.length < p + 1 + i then l.getD (l.length - 1 - p) 0 else l.getD p 0) →
   Ev (fun k => slices_Reverse_byte_byte.l0 k y (i : Int) ((l.length : Int) - 1 - (i : Int))) l.reverse := by
  intro y i hi hd hy hp
  refine Ev.step (f := fun _ => some y) (fun k => ?_) ?_
  ·rw [slices_Reverse_byte_byte.l0, if_neg (by omega)]
  ·have : y = l.reverse := by
    refine List.ext_getElem (by rw [List.length_reverse]; exact hy) (fun p h1 h2 => ?_)
    rw [List.length_reverse] at h2
    have h3 := hp p h2
    rw [List.getD_eq_getElem?_getD, List.getElem?_eq_getElem h1] at h3
    rw [List.getElem_reverse]
    have h4 : l.getD (l.length - 1 - p) 0 = l[l.length - 1 - p] := by rw [List.getD_eq_getElem?_getD, List.getElem?_eq_getElem (by omega)]; rfl
    rw [← h4]
    refine Eq.trans h3 ?_
    split
    ·rfl
    ·rw [show l.length - 1 - p = p from by omega]
   rw [this]
   exact Ev.now _
 induction d with
 | zero =>
  intro y i hi hd hy hp
  exact stop y i hi (by omega) hy hp
 | succ d ih =>
  intro y i hi hd hy hp
  by_cases hlt : l.length ≤ 2 * i + 1
  ·exact stop y i hi hlt hy hp
  ·obtain ⟨j, hj⟩ : ∃ j, j = l.length - 1 - i := ⟨_, rfl⟩
   have hji : (l.length : Int) - 1 - (i : Int) = (j : Int) := by omega
   refine Ev.step (f := fun k => slices_Reverse_byte_byte.l0 k ((y.set i (y.getD j 0)).set j (y.getD i 0)) ((i + 1 : Nat) : Int) ((l.length : Int) - 1 - ((i + 1 : Nat) : Int))) (fun k => ?_) ?_
   ·rw [slices_Reverse_byte_byte.l0, hji, if_pos (by omega), if_pos (by omega), if_pos (by omega), if_pos (by omega), if_pos (by omega), Dec.w64s _ (by omega), Dec.w64 (by omega) (by omega), Int.toNat_natCast, Int.toNat_natCast, show rd y (i : Int) = y.getD i 0 from by simp [rd], show rd y (j : Int) = y.getD j 0 from by simp [rd], show (j : Int) - 1 = (l.length : Int) - 1 - ((i + 1 : Nat) : Int) from by omega]
   ·refine ih _ (i + 1) (by omega) (by omega) (by rw [List.length_set, List.length_set]; exact hy) (fun p hpl => ?_)
    have hi1 := hp i (by omega)
    have hj1 := hp j (by omega)
    rw [if_neg (by omega)] at hi1 hj1
    have gs : ∀ (z : List Int) (a : Nat) (v : Int) (b : Nat), (z.set a v).getD b 0 = if a = b ∧ a < z.length then v else z.getD b 0 := by
     intro z a v b
     rw [List.getD_eq_getElem?_getD, List.getD_eq_getElem?_getD, List.getElem?_set]
     by_cases h : a = b
     ·subst h
      by_cases h2 : a < z.length
      ·simp [h2]
      ·simp [h2]
     ·simp [h]
    rw [gs, gs, List.length_set, hi1, hj1, hp p hpl]
    by_cases e1 : j = p
    ·subst e1
     rw [if_pos ⟨rfl, by omega⟩, if_pos (by omega), show l.length - 1 - j = i from by omega]
    ·rw [if_neg (by omega)]
     by_cases e2 : i = p
     ·subst e2
      rw [if_pos ⟨rfl, by omega⟩, if_pos (by omega), hj]
     ·rw [if_neg (by omega)]
      by_cases e3 : p < i ∨ l.length < p + 1 + i
      ·rw [if_pos e3, if_pos (by omega)]
      ·rw [if_neg e3, if_neg (by omega)]
theorem slices_Reverse_byte_byte.ev {l : List Int} (hl : l.length < 9223372036854775807) : Ev (fun k => slices_Reverse_byte_byte.f k l) l.reverse := by
 have := slices_Reverse_byte_byte.ev_l hl l.length l 0 (by omega) (by omega) rfl (fun p hp => by rw [if_neg (by omega)])
 refine Ev.congr (fun k => ?_) this
 unfold slices_Reverse_byte_byte.f
 rw [Dec.w64 (by omega) (by omega), show (l.length : Int) - 1 - ((0 : Nat) : Int) = (l.length : Int) - 1 from by omega]
 rfl
mutual
def nat_Text.l0 : Nat → List Int → List Int → Option (ByteArray)
 | 0, _, _ => none
 | k + 1, x0, x3 => if (x0.length : Int) > 0 then ((nat_Of.f k 1000000000).bind fun t195 => ((nat_DivMod.f k x0 t195).bind fun bt198 => ((nat_Small.f k bt198.2.1).bind fun bt205 => (nat_Text.l1 k x3 bt198.1 bt205.1 0)))) else (nat_Text.l2 k x3)
def nat_Text.l1 : Nat → List Int → List Int → Int → Int → Option (ByteArray)
 | 0, _, _, _, _ => none
 | k + 1, x3, x4, x7, x26 => if x26 < 9 then (if x3.length < 140737488355328 then (nat_Text.l1 k (x3 ++ [(IntKind.u64.wrap (48 + (Int.tmod x7 10))) % 256]) x4 (IntKind.u64.wrap (Int.tdiv x7 10)) (wrap64 (x26 + 1))) else (none)) else (nat_Text.l0 k x4 x3)
def nat_Text.l2 : Nat → List Int → Option (ByteArray)
 | 0, _ => none
 | k + 1, x3 => if (x3.length : Int) > 1 then (if 0 ≤ (wrap64 ((x3.length : Int) - 1)) then (if (wrap64 ((x3.length : Int) - 1)) < (x3.length : Int) then (if (rd x3 (wrap64 ((x3.length : Int) - 1))) = 48 then (if (wrap64 ((x3.length : Int) - 1)) ≤ (x3.length : Int) then (nat_Text.l2 k (x3.take ((wrap64 ((x3.length : Int) - 1)) : Int).toNat)) else (none)) else (if (x3.length : Int) = 0 then (some (⟨#[48]⟩ : ByteArray)) else ((slices_Reverse_byte_byte.f k x3).bind fun t214 => (some (strOfNums t214))))) else (none)) else (none)) else (if (x3.length : Int) = 0 then (some (⟨#[48]⟩ : ByteArray)) else ((slices_Reverse_byte_byte.f k x3).bind fun t215 => (some (strOfNums t215))))
end
def nat_Text.f (k : Nat) (l0 : List Int) : Option (ByteArray) := (nat_trim.f k l0).bind fun t192 => (nat_Text.l0 k t192 ([] : List Int))
set_option maxHeartbeats 8000000 in
set_option maxRecDepth 100000 in
theorem nat_Text.calls (k : Nat) (A0 : Option Addr) (c0 : Nat) (l0 : List Int) (r : ByteArray) (w : World) (hr0 : Kd.C (Kd.int .u32) w A0 l0.length l0) (hc0 : l0.length ≤ c0) (h : nat_Text.f k l0 = some r) :
  Calls Try.prog 59 #[.slice A0 l0.length c0] w fun e w' => e = .returned (.string r) ∧ Below w.heap.size w w' := by
 have HR0 := Aside0.mk hr0
 have HC0 := Aside0.mk hc0
 clear hr0 hc0
 have HB := Aside0.mk (Below.refl w.heap.size w)
 have H : ((nat_trim.f k l0).bind fun t192 => (nat_Text.l0 k t192 ([] : List Int))) = some r := h
 clear h
 replace H := Option.bind_eq_some_iff.mp H
 obtain ⟨t192, A20, H⟩ := H
 try dsimp only at H
 have A2 := Aside0.mk A20
 clear A20
 have H' := Aside0.mk H
 clear H
 go_enter Try.func59, Try.ntmps59
 go_wp2_with (first | ((with_reducible refine gate_callee (f := 71) rfl ?_); refine Short.goesS_ (some 10) Try.func71 #[.slice A0 l0.length c0] ?_; (with_reducible refine (nat_trim.calls k _ _ l0 t192 _ HR0.out HC0.out A2.out).mono ?_); rintro e w3 ⟨v193, rfl, ho0, hb⟩; refine ⟨_, rfl, ?_⟩; have HO194 := Aside0.mk (Kd.R_lower ho0 (below_size (by repeat (first | (with_reducible first | exact HB.out | apply below_alloc | apply pw_below_drewN | apply below_drew1) | exact HB.out)))); replace HB := Aside0.mk (below_step (by repeat (first | (with_reducible first | exact HB.out | apply below_alloc | apply pw_below_drewN | apply below_drew1) | exact HB.out)) hb); (try clear hb); (try clear ho0)))
 go_loopg [0, 3] k (fun kq v0 v3 w' => ∃ (x0_1 : List Int) (x3_1 : List Int), Aside0 (nat_Text.l0 kq x0_1 x3_1 = some r) ∧ Aside0 (kq ≤ k) ∧ Aside0 (Kd.R (Kd.int .u32) 89 w' w.heap.size (fun _ => True) v0 x0_1) ∧ Aside0 (Kd.R (Kd.int .u8) 5 w' w.heap.size (fun _ => True) v3 x3_1) ∧ Aside0 (Below w.heap.size w w'))
 case atStart => exact ⟨(t192), (([] : List Int)), H', ⟨Nat.le_refl _⟩, ⟨by (with_reducible repeat (first | apply Kd.R_alloc | apply Kd.R_drewN | apply Kd.R_drew)); exact HO194.out⟩, ⟨by first | exact Kd.R_nil _ _ _ _ _ | exact Kd.N_nil _ _ _ _ _ | exact Kd.V_nil _ _ _ _ _ | exact Kd.Q_nil _ _ _ _ _ | exact Kd.S_nil _ _ _ _ _⟩, ⟨by repeat (first | (with_reducible first | exact HB.out | apply below_alloc | apply pw_below_drewN | apply below_drew1) | exact HB.out)⟩⟩
 case round =>
  clear H'
  try clear p2
  obtain ⟨x0_1, x3_1, HA, HK1, HO_0, HO_3, HB⟩ := hrel
  cases gk with
  | zero => exact absurd HA.out (by simp [nat_Text.l0])
  | succ k1 =>
   have H := HA.out
   clear HA
   simp only [nat_Text.l0] at H
   by_cases c4 : (x0_1.length : Int) > 0
   ·rw [if_pos c4] at H
    have c4b0 : decide (0 < (x0_1.length : Int)) = true := decide_eq_true c4
    have c4b1 : decide (0 < x0_1.length) = true := decide_eq_true (by omega)
    clear c4
    replace H := Option.bind_eq_some_iff.mp H
    obtain ⟨t195, A50, H⟩ := H
    try dsimp only at H
    have A5 := Aside0.mk A50
    clear A50
    replace H := Option.bind_eq_some_iff.mp H
    obtain ⟨⟨t198, t201, t204⟩, A60, H⟩ := H
    try dsimp only at H
    have A6 := Aside0.mk A60
    clear A60
    replace H := Option.bind_eq_some_iff.mp H
    obtain ⟨⟨t205, t206⟩, A70, H⟩ := H
    replace H : (nat_Text.l1 k1 x3_1 t198 t205 0) = some r := H
    have A7 := Aside0.mk A70
    clear A70
    have H' := Aside0.mk H
    clear H
    obtain ⟨Ao8, co8, eo8⟩ := Kd.R_slice HO_0.out
    subst eo8
    go_wp2_with (first | ((with_reducible refine gate_callee (f := 37) rfl ?_); refine Short.goesS_ (some 16) Try.func37 #[.int .u64 1000000000] ?_; (with_reducible refine (nat_Of.calls k1 1000000000 t195 _ A5.out).mono ?_); rintro e w9 ⟨v196, rfl, ho0, hb⟩; refine ⟨_, rfl, ?_⟩; replace HO_3 := Aside0.mk (Kd.R_below HO_3.out hb); have HO197 := Aside0.mk (Kd.R_lower (Kd.R_new' ho0 (Kd.R_lt HO_0.out)) (below_size (by repeat (first | (with_reducible first | exact HB.out | apply below_alloc | apply pw_below_drewN | apply below_drew1) | exact HB.out)))); replace HO_0 := Aside0.mk (Kd.R_elder' HO_0.out (Kd.R_base ho0) hb); replace HB := Aside0.mk (below_step (by repeat (first | (with_reducible first | exact HB.out | apply below_alloc | apply pw_below_drewN | apply below_drew1) | exact HB.out)) hb); (try clear hb); (try clear ho0); obtain ⟨Ao10, co10, eo10⟩ := Kd.R_slice HO197.out; subst eo10) | ((with_reducible refine gate_callee (f := 70) rfl ?_); refine Short.goesS_ (some 17) Try.func70 #[.slice Ao8 x0_1.length co8, .slice Ao10 t195.length co10] ?_; (with_reducible refine (nat_DivMod.calls k1 _ _ x0_1 _ _ t195 t198 t201 t204 _ ((Kd.R_reads' HO_0.out).2.2) ((Kd.R_reads' HO_0.out).2.1) ((Kd.R_reads' HO197.out).2.2) ((Kd.R_reads' HO197.out).2.1) A6.out).mono ?_); rintro e w11 ⟨v199, v202, rfl, ho0, ho1, hb⟩; refine ⟨_, rfl, ?_⟩; have HO200 := Aside0.mk (Kd.R_lower (Kd.R_new' (Kd.R_new' (Kd.R_mono (ok' := fun k_ => True) ho0 (fun _ hk_ => trivial)) (Kd.R_lt HO_0.out)) (Kd.R_lt HO197.out)) (below_size (by repeat (first | (with_reducible first | exact HB.out | apply below_alloc | apply pw_below_drewN | apply below_drew1) | exact HB.out)))); have HO203 := Aside0.mk (Kd.V_lower (Kd.V_mono (ok' := fun k_ => some k_ ≠ (v199 : Value).ownBlock ∧ some k_ ≠ (.slice Ao8 x0_1.length co8 : Value).ownBlock ∧ some k_ ≠ (u3 : Value).ownBlock ∧ some k_ ≠ (.slice Ao10 t195.length co10 : Value).ownBlock) ho1 (fun k_ hk_ => ⟨hk_.2, (Kd.fresh' (Kd.R_lt HO_0.out) k_ hk_.1), (Kd.fresh' (Kd.R_lt HO_3.out) k_ hk_.1), (Kd.fresh' (Kd.R_lt HO197.out) k_ hk_.1)⟩)) (below_size (by repeat (first | (with_reducible first | exact HB.out | apply below_alloc | apply pw_below_drewN | apply below_drew1) | exact HB.out)))); replace HO_0 := Aside0.mk (Kd.R_elder' HO_0.out (Kd.R_base ho0) hb); replace HO_3 := Aside0.mk (Kd.R_below HO_3.out hb); replace HO197 := Aside0.mk (Kd.R_elder' HO197.out (Kd.R_base ho0) hb); replace HB := Aside0.mk (below_step (by repeat (first | (with_reducible first | exact HB.out | apply below_alloc | apply pw_below_drewN | apply below_drew1) | exact HB.out)) hb); (try clear hb); (try clear ho0); (try clear ho1); obtain ⟨Ao12, co12, eo12⟩ := Kd.V_slice HO203.out; subst eo12) | ((with_reducible refine gate_callee (f := 83) rfl ?_); refine Short.goesS_ (some 23) Try.func83 #[.slice Ao12 t201.length co12] ?_; (with_reducible refine (nat_Small.calls k1 _ _ t201 t205 t206 _ ((Kd.V_reads' HO203.out).2.2) ((Kd.V_reads' HO203.out).2.1) A7.out).mono ?_); rintro e w13 ⟨rfl, hb⟩; refine ⟨_, rfl, ?_⟩; replace HO_0 := Aside0.mk (Kd.R_below HO_0.out hb); replace HO_3 := Aside0.mk (Kd.R_below HO_3.out hb); replace HO197 := Aside0.mk (Kd.R_below HO197.out hb); replace HO200 := Aside0.mk (Kd.R_below HO200.out hb); replace HO203 := Aside0.mk (Kd.V_below HO203.out hb); replace HB := Aside0.mk (below_step (by repeat (first | (with_reducible first | exact HB.out | apply below_alloc | apply pw_below_drewN | apply below_drew1) | exact HB.out)) hb); (try clear hb)))
    go_loopg [3, 7, 26] k1 (fun kq v3 v7 v26 w' => ∃ (x3_2 : List Int) (x7_2 : Int) (x26_2 : Int), v7 = .int .u64 x7_2 ∧ v26 = .int .i64 x26_2 ∧ Aside0 (nat_Text.l1 kq x3_2 t198 x7_2 x26_2 = some r) ∧ Aside0 (kq ≤ k1) ∧ Aside0 (Kd.R (Kd.int .u8) 5 w' w.heap.size (fun _ => True) v3 x3_2) ∧ Aside0 (Kd.R (Kd.int .u32) 89 w' w.heap.size (fun _ => True) v199 t198) ∧ Aside0 (Below w.heap.size w w'))
    case atStart => exact ⟨(x3_1), (t205), (0), (by first | rfl | (simp; done) | (simp [*]; done)), (by first | rfl | (simp; done) | (simp [*]; done)), H', ⟨Nat.le_refl _⟩, ⟨by (with_reducible repeat (first | apply Kd.R_alloc | apply Kd.R_drewN | apply Kd.R_drew)); exact HO_3.out⟩, ⟨by (with_reducible repeat (first | apply Kd.R_alloc | apply Kd.R_drewN | apply Kd.R_drew)); exact Kd.R_mono HO200.out (fun _ hk => trivial)⟩, ⟨by repeat (first | (with_reducible first | exact HB.out | apply below_alloc | apply pw_below_drewN | apply below_drew1) | exact HB.out)⟩⟩
    case round =>
     clear H'
     try clear p2
     try clear c3
     try clear c4
     try clear c4b0
     try clear c4b1
     try clear c5
     try clear c7
     try clear c8
     try clear p2
     obtain ⟨x3_2, x7_2, x26_2, rfl, rfl, HA, HK2, HO_3, HO_4, HB⟩ := hrel
     cases gk with
     | zero => exact absurd HA.out (by simp [nat_Text.l1])
     | succ k2 =>
      have H := HA.out
      clear HA
      simp only [nat_Text.l1] at H
      by_cases c14 : x26_2 < 9
      ·rw [if_pos c14] at H
       have c14b0 : decide (x26_2 < 9) = true := decide_eq_true c14
       clear c14
       by_cases c15 : x3_2.length < 140737488355328
       ·rw [if_pos c15] at H
        have LMc15 := Aside0.mk c15
        clear c15
        obtain ⟨y207, hy207⟩ : ∃ y_ : List Int, y_ = (x3_2 ++ [(IntKind.u64.wrap (48 + (Int.tmod x7_2 10))) % 256]) := ⟨_, rfl⟩
        replace H : (nat_Text.l1 k2 y207 t198 (IntKind.u64.wrap (Int.tdiv x7_2 10)) (wrap64 (x26_2 + 1))) = some r := by first | (rw [hy207]; with_reducible exact H) | (have H2_ := (Option.bind_some _ _).symm.trans H; rw [hy207]; with_reducible exact H2_) | (have H2_ := (Option.bind_some _ _).symm.trans H; with_reducible exact H2_) | with_reducible exact H | (rw [hy207]; exact H) | exact H
        have Ny207 := Aside0.mk hy207
        clear hy207
        have H' := Aside0.mk H
        clear H
        go_wp2_with (first | ((with_reducible refine gate_builtin (b := .append) (xs := #[.tmp 28, .tmp 33]) rfl ?_); (try (refine gate_guard (by rfl) ?_; dsimp only)); at_builtin; refine Kd.R_append (Kd.int .u8) (w0 := w) w.heap.size rfl (.tmp 28) (.tmp 33) 103 5 (.int .u8 0) 1 rfl Try.underlying103 info5 rfl (by decide) (by omega) u3 x3_2 ((IntKind.u64.wrap (48 + (Int.tmod x7_2 10))) % 256) [.int .u8 ((IntKind.u64.wrap (48 + (Int.tmod x7_2 10))) % 256)] (fun _ => True) (fun _ => False) rfl rfl ?aP (fun _ hk => hk.elim) ?aF ?aO ?aB ?aS ?aL ?_; (case aP => exact rfl); (case aB => exact (by repeat (first | (with_reducible first | exact HB.out | apply below_alloc | apply pw_below_drewN | apply below_drew1) | exact HB.out))); (case aF => exact (fun _ _ => trivial)); (case aO => exact HO_3.out); (case aS => exact (below_size (by repeat (first | (with_reducible first | exact HB.out | apply below_alloc | apply pw_below_drewN | apply below_drew1) | exact HB.out)))); (case aL => have := LMc15.out; omega); intro v208 w16 ho hb hg hat; rw [← Ny207.out] at ho; replace HO_4 := Aside0.mk (Kd.R_over' HO_4.out (Kd.R_typed HO_3.out) (by decide) hg); replace HB := Aside0.mk (hb); have HO209 := Aside0.mk (ho); clear HO_3; clear ho hb hg hat))
        go_roundg k2
        case measure => have := HK1.out; have := HK2.out; omega
        case rel => exact ⟨(y207), (IntKind.u64.wrap (Int.tdiv x7_2 10)), (wrap64 (x26_2 + 1)), (by first | rfl | (simp; done) | (simp [*]; done)), (by first | rfl | (simp; done) | (simp [*]; done)), H', ⟨by have := HK1.out; have := HK2.out; omega⟩, ⟨by (with_reducible repeat (first | apply Kd.R_alloc | apply Kd.R_drewN | apply Kd.R_drew)); exact HO209.out⟩, ⟨by (with_reducible repeat (first | apply Kd.R_alloc | apply Kd.R_drewN | apply Kd.R_drew)); exact HO_4.out⟩, ⟨by repeat (first | (with_reducible first | exact HB.out | apply below_alloc | apply pw_below_drewN | apply below_drew1) | exact HB.out)⟩⟩
       ·rw [if_neg c15] at H
        exact absurd H (by simp)
      ·rw [if_neg c14] at H
       have c14b0 : decide (x26_2 < 9) = false := decide_eq_false c14
       clear c14
       have H' := Aside0.mk H
       clear H
       go_wp2
       go_roundg k2
       case measure => have := HK1.out; have := HK2.out; omega
       case rel => exact ⟨(t198), (x3_2), H', ⟨by have := HK1.out; have := HK2.out; omega⟩, ⟨by (with_reducible repeat (first | apply Kd.R_alloc | apply Kd.R_drewN | apply Kd.R_drew)); exact HO_4.out⟩, ⟨by (with_reducible repeat (first | apply Kd.R_alloc | apply Kd.R_drewN | apply Kd.R_drew)); exact HO_3.out⟩, ⟨by repeat (first | (with_reducible first | exact HB.out | apply below_alloc | apply pw_below_drewN | apply below_drew1) | exact HB.out)⟩⟩
   ·rw [if_neg c4] at H
    have c4b0 : decide (0 < (x0_1.length : Int)) = false := decide_eq_false c4
    have c4b1 : decide (0 < x0_1.length) = false := decide_eq_false (by omega)
    clear c4
    have H' := Aside0.mk H
    clear H
    obtain ⟨Ao17, co17, eo17⟩ := Kd.R_slice HO_0.out
    subst eo17
    go_wp2
    go_loopg [3] k1 (fun kq v3 w' => ∃ (x3_2 : List Int), Aside0 (nat_Text.l2 kq x3_2 = some r) ∧ Aside0 (kq ≤ k1) ∧ Aside0 (Kd.R (Kd.int .u8) 5 w' w.heap.size (fun _ => True) v3 x3_2) ∧ Aside0 (Below w.heap.size w w'))
    case atStart => exact ⟨(x3_1), H', ⟨Nat.le_refl _⟩, ⟨by (with_reducible repeat (first | apply Kd.R_alloc | apply Kd.R_drewN | apply Kd.R_drew)); exact HO_3.out⟩, ⟨by repeat (first | (with_reducible first | exact HB.out | apply below_alloc | apply pw_below_drewN | apply below_drew1) | exact HB.out)⟩⟩
    case round =>
     clear H'
     try clear c1
     try clear p2
     try clear c3
     try clear c4
     try clear c4b0
     try clear c4b1
     try clear c5
     try clear p6
     try clear c7
     try clear c8
     try clear c14
     try clear c14b0
     try clear c15
     try clear p2
     obtain ⟨x3_2, HA, HK2, HO_3, HB⟩ := hrel
     cases gk with
     | zero => exact absurd HA.out (by simp [nat_Text.l2])
     | succ k2 =>
      have H := HA.out
      clear HA
      simp only [nat_Text.l2] at H
      by_cases c18 : (x3_2.length : Int) > 1
      ·rw [if_pos c18] at H
       have c18b0 : decide (1 < (x3_2.length : Int)) = true := decide_eq_true c18
       have c18b1 : decide (1 < x3_2.length) = true := decide_eq_true (by omega)
       clear c18
       obtain ⟨ji19, hji19⟩ : ∃ j_ : Int, (wrap64 ((x3_2.length : Int) - 1)) = j_ := ⟨_, rfl⟩
       replace H : (if 0 ≤ (ji19) then (if (ji19) < (x3_2.length : Int) then (if (rd x3_2 (ji19)) = 48 then (if (ji19) ≤ (x3_2.length : Int) then (nat_Text.l2 k2 (x3_2.take ((ji19) : Int).toNat)) else (none)) else (if (x3_2.length : Int) = 0 then (some (⟨#[48]⟩ : ByteArray)) else ((slices_Reverse_byte_byte.f k2 x3_2).bind fun t214 => (some (strOfNums t214))))) else (none)) else (none)) = some r := by first | (rw [hji19] at H; exact H) | (simp only [hji19] at H ⊢; exact H)
       have hji19w : (IntKind.i64.wrap ((x3_2.length : Int) - 1)) = ji19 := (i64_w _).trans hji19
       by_cases c20 : 0 ≤ (ji19)
       ·rw [if_pos c20] at H
        have c20b0 : decide (0 ≤ (ji19)) = true := decide_eq_true c20
        clear c20
        by_cases c21 : (ji19) < (x3_2.length : Int)
        ·rw [if_pos c21] at H
         have c21b0 : decide ((ji19) < (x3_2.length : Int)) = true := decide_eq_true c21
         clear c21
         by_cases c22 : (rd x3_2 (ji19)) = 48
         ·rw [if_pos c22] at H
          have c22b0 : ((rd x3_2 (ji19)) == 48) = true := beq_iff_eq.mpr c22
          have c22b1 : ((rd x3_2 (ji19)) != 48) = false := bne_eq_false_iff_eq.mpr c22
          clear c22
          by_cases c23 : (ji19) ≤ (x3_2.length : Int)
          ·rw [if_pos c23] at H
           have c23b0 := eq_true c23
           have c23b1 : decide ((ji19) ≤ (x3_2.length : Int)) = true := decide_eq_true c23
           clear c23
           obtain ⟨y211, hy211⟩ : ∃ y_ : List Int, y_ = (x3_2.take ((ji19) : Int).toNat) := ⟨_, rfl⟩
           replace H : (nat_Text.l2 k2 y211) = some r := by first | (rw [hy211]; with_reducible exact H) | (have H2_ := (Option.bind_some _ _).symm.trans H; rw [hy211]; with_reducible exact H2_) | (have H2_ := (Option.bind_some _ _).symm.trans H; with_reducible exact H2_) | with_reducible exact H | (rw [hy211]; exact H) | exact H
           have Ny211 := Aside0.mk hy211
           clear hy211
           have H' := Aside0.mk H
           clear H
           obtain ⟨Ao24, co24, eo24⟩ := Kd.R_slice HO_3.out
           subst eo24
           have p210 : 0 ≤ ((ji19) : Int) := of_decide_eq_true (by first | (with_reducible assumption) | assumption)
           have q210 : (ji19) < (x3_2.length : Int) := of_decide_eq_true (by first | (with_reducible assumption) | assumption)
           obtain ⟨ad210, e210, hx210_0⟩ := Kd.at_int (Kd.R_reads' HO_3.out).2.2 (ji19) p210 q210
           cases e210
           replace p210 := eq_true p210
           replace q210 := eq_true q210
           have q25 : ((ji19) : Int) ≤ ((x3_2.length : Int) : Int) := of_decide_eq_true (by first | (with_reducible assumption) | assumption)
           obtain ⟨i025, hi025, _, hsz25, _⟩ := info_parts info5
           have hcut25 := cut_to (P := Try.prog) 103 5 .i64 Try.underlying103 hi025 (some ad210) x3_2.length co24 (ji19) (of_decide_eq_true (by first | (with_reducible assumption) | assumption)) q25 (Kd.R_reads' HO_3.out).2.1
           have hr25 := Kd.R_take (m := ((ji19) : Int).toNat) HO_3.out (by omega)
           have hy25 : y211.length = ((ji19) : Int).toNat := (by rw [Ny211.out, List.length_take]; omega)
           rw [← Ny211.out] at hr25
           rw [← hy25] at hr25 hcut25
           clear hy25 hi025 hsz25 HO_3
           have HO213 := Aside0.mk hr25
           clear hr25
           replace q25 := eq_true q25
           go_wp2
           go_roundg k2
           case measure => have := HK1.out; have := HK2.out; omega
           case rel => exact ⟨(y211), H', ⟨by have := HK1.out; have := HK2.out; omega⟩, ⟨by (with_reducible repeat (first | apply Kd.R_alloc | apply Kd.R_drewN | apply Kd.R_drew)); exact HO213.out⟩, ⟨by repeat (first | (with_reducible first | exact HB.out | apply below_alloc | apply pw_below_drewN | apply below_drew1) | exact HB.out)⟩⟩
          ·rw [if_neg c23] at H
           exact absurd H (by simp)
         ·rw [if_neg c22] at H
          have c22b0 : ((rd x3_2 (ji19)) == 48) = false := beq_eq_false_iff_ne.mpr c22
          have c22b1 : ((rd x3_2 (ji19)) != 48) = true := bne_iff_ne.mpr c22
          by_cases c26 : (x3_2.length : Int) = 0
          ·rw [if_pos c26] at H
           have c26b0 : ((x3_2.length : Int) == 0) = true := beq_iff_eq.mpr c26
           have c26b1 : ((x3_2.length : Int) != 0) = false := bne_eq_false_iff_eq.mpr c26
           clear c26
           obtain rfl := Option.some.inj H
           obtain ⟨Ao27, co27, eo27⟩ := Kd.R_slice HO_3.out
           subst eo27
           have p210 : 0 ≤ ((ji19) : Int) := of_decide_eq_true (by first | (with_reducible assumption) | assumption)
           have q210 : (ji19) < (x3_2.length : Int) := of_decide_eq_true (by first | (with_reducible assumption) | assumption)
           obtain ⟨ad210, e210, hx210_0⟩ := Kd.at_int (Kd.R_reads' HO_3.out).2.2 (ji19) p210 q210
           cases e210
           replace p210 := eq_true p210
           replace q210 := eq_true q210
           go_wp2
           go_ret
           exact ⟨by first | rfl | (simp [errW_none, errW_some] <;> rfl) | (simp only [← hji19]; first | rfl | (simp [errW_none, errW_some] <;> rfl)) | (simp [*, errW_none, errW_some] <;> rfl), by repeat (first | (with_reducible first | exact HB.out | apply below_alloc | apply pw_below_drewN | apply below_drew1) | exact HB.out)⟩
          ·rw [if_neg c26] at H
           have c26b0 : ((x3_2.length : Int) == 0) = false := beq_eq_false_iff_ne.mpr c26
           have c26b1 : ((x3_2.length : Int) != 0) = true := bne_iff_ne.mpr c26
           have c26b2 : ¬ (x3_2 = []) := fun h_ => c26 (by rw [h_]; rfl)
           replace H := Option.bind_eq_some_iff.mp H
           obtain ⟨t214, A280, H⟩ := H
           replace H : (some (strOfNums t214)) = some r := H
           have A28 := Aside0.mk A280
           clear A280
           obtain rfl := Option.some.inj H
           obtain ⟨Ao29, co29, eo29⟩ := Kd.R_slice HO_3.out
           subst eo29
           have p210 : 0 ≤ ((ji19) : Int) := of_decide_eq_true (by first | (with_reducible assumption) | assumption)
           have q210 : (ji19) < (x3_2.length : Int) := of_decide_eq_true (by first | (with_reducible assumption) | assumption)
           obtain ⟨ad210, e210, hx210_0⟩ := Kd.at_int (Kd.R_reads' HO_3.out).2.2 (ji19) p210 q210
           cases e210
           replace p210 := eq_true p210
           replace q210 := eq_true q210
           go_wp2_with (first | ((with_reducible refine gate_callee (f := 84) rfl ?_); refine Short.goesS_ (some 60) Try.func84 #[.slice (some ad210) x3_2.length co29] ?_; (with_reducible refine (slices_Reverse_byte_byte.calls k2 (fun k_ => some k_ = (.slice (some ad210) x3_2.length co29 : Value).ownBlock) (.slice (some ad210) x3_2.length co29) x3_2 t214 w _ ?side1 (Kd.R_tight rfl HO_3.out) A28.out).mono ?_); (case side1 => repeat (first | (with_reducible first | exact HB.out | apply below_alloc | apply pw_below_drewN | apply below_drew1) | exact HB.out)); rintro e w30 ⟨rfl, hy0, hb, hkp⟩; refine ⟨_, rfl, ?_⟩; replace HO_3 := Aside0.mk (Kd.R_reok rfl hy0 (fun k_ e_ => HO_3.out.1 k_ e_)); replace HB := Aside0.mk (hb); (try clear hb); (try clear hkp); (try clear hy0); have hcv31 := own_string (P := Try.prog) Try.underlying103 Try.underlying5 Try.underlying9 (Kd.own_of_R HO_3.out)))
           go_ret
           exact ⟨by first | rfl | (simp [errW_none, errW_some] <;> rfl) | (simp only [← hji19]; first | rfl | (simp [errW_none, errW_some] <;> rfl)) | (simp [*, errW_none, errW_some] <;> rfl), by repeat (first | (with_reducible first | exact HB.out | apply below_alloc | apply pw_below_drewN | apply below_drew1) | exact HB.out)⟩
        ·rw [if_neg c21] at H
         exact absurd H (by simp)
       ·rw [if_neg c20] at H
        exact absurd H (by simp)
      ·rw [if_neg c18] at H
       have c18b0 : decide (1 < (x3_2.length : Int)) = false := decide_eq_false c18
       have c18b1 : decide (1 < x3_2.length) = false := decide_eq_false (by omega)
       clear c18
       by_cases c32 : (x3_2.length : Int) = 0
       ·rw [if_pos c32] at H
        have c32b0 : ((x3_2.length : Int) == 0) = true := beq_iff_eq.mpr c32
        have c32b1 : ((x3_2.length : Int) != 0) = false := bne_eq_false_iff_eq.mpr c32
        clear c32
        obtain rfl := Option.some.inj H
        obtain ⟨Ao33, co33, eo33⟩ := Kd.R_slice HO_3.out
        subst eo33
        go_wp2
        go_ret
        exact ⟨by rfl, by repeat (first | (with_reducible first | exact HB.out | apply below_alloc | apply pw_below_drewN | apply below_drew1) | exact HB.out)⟩
       ·rw [if_neg c32] at H
        have c32b0 : ((x3_2.length : Int) == 0) = false := beq_eq_false_iff_ne.mpr c32
        have c32b1 : ((x3_2.length : Int) != 0) = true := bne_iff_ne.mpr c32
        have c32b2 : ¬ (x3_2 = []) := fun h_ => c32 (by rw [h_]; rfl)
        replace H := Option.bind_eq_some_iff.mp H
        obtain ⟨t215, A340, H⟩ := H
        replace H : (some (strOfNums t215)) = some r := H
        have A34 := Aside0.mk A340
        clear A340
        obtain rfl := Option.some.inj H
        obtain ⟨Ao35, co35, eo35⟩ := Kd.R_slice HO_3.out
        subst eo35
        go_wp2_with (first | ((with_reducible refine gate_callee (f := 84) rfl ?_); refine Short.goesS_ (some 60) Try.func84 #[.slice Ao35 x3_2.length co35] ?_; (with_reducible refine (slices_Reverse_byte_byte.calls k2 (fun k_ => some k_ = (.slice Ao35 x3_2.length co35 : Value).ownBlock) (.slice Ao35 x3_2.length co35) x3_2 t215 w _ ?side1 (Kd.R_tight rfl HO_3.out) A34.out).mono ?_); (case side1 => repeat (first | (with_reducible first | exact HB.out | apply below_alloc | apply pw_below_drewN | apply below_drew1) | exact HB.out)); rintro e w36 ⟨rfl, hy0, hb, hkp⟩; refine ⟨_, rfl, ?_⟩; replace HO_3 := Aside0.mk (Kd.R_reok rfl hy0 (fun k_ e_ => HO_3.out.1 k_ e_)); replace HB := Aside0.mk (hb); (try clear hb); (try clear hkp); (try clear hy0); have hcv37 := own_string (P := Try.prog) Try.underlying103 Try.underlying5 Try.underlying9 (Kd.own_of_R HO_3.out)))
        go_ret
        exact ⟨by rfl, by repeat (first | (with_reducible first | exact HB.out | apply below_alloc | apply pw_below_drewN | apply below_drew1) | exact HB.out)⟩

/-- The noughts at the end are taken off, and the letters turned round. -/
theorem nat_Text.ev_2 (n : Nat) : ∀ {out : List Nat}, out.length = n → n < 4000000000 → Dec.Ds out → Ev (fun k => nat_Text.l2 k (Dec.cs out)) (Dec.dec (Dec.dv out)) := by
 have fin : ∀ (out : List Nat) (d : Nat), d < 10 → Dec.Ds out → out.length < 4000000000 → (out = [] ∨ d ≠ 0) → Ev (fun k => (slices_Reverse_byte_byte.f k (Dec.cs (out ++ [d]))).bind fun t205 => (some (strOfNums t205))) (Dec.dec (Dec.dv (out ++ [d]))) := by
  intro out d hd ho hl h0
  refine Ev.bind (slices_Reverse_byte_byte.ev (by rw [Dec.cs_length, List.length_append, List.length_singleton]; omega)) ?_
  rw [Dec.str_cs]
  by_cases hd0 : d = 0
  ·rcases h0 with h0 | h0
   ·subst hd0
    subst h0
    exact Ev.now _
   ·exact absurd hd0 h0
  ·unfold Dec.dec
   rw [Dec.dc_snoc ho hd hd0]
   exact Ev.now _
 induction n with
 | zero =>
  intro out hl hn h
  obtain rfl : out = [] := List.eq_nil_of_length_eq_zero hl
  refine Ev.step (f := fun _ => some (Dec.dec (Dec.dv []))) (fun k => ?_) (Ev.now _)
  rw [nat_Text.l2, Dec.cs_length, if_neg (by rw [List.length_nil]; omega), if_pos (by rw [List.length_nil]; omega)]
  exact congrArg some Dec.dec_zero.symm
 | succ n ih =>
  intro out hl hn h
  rcases List.eq_nil_or_concat out with rfl | ⟨l', d, rfl⟩
  ·simp at hl
  ·rw [List.concat_eq_append] at hl h ⊢
   have hd : d < 10 := h.right.head
   have hn' : l'.length = n := by simpa using hl
   have hlen : (Dec.cs (l' ++ [d])).length = l'.length + 1 := by rw [Dec.cs_length, List.length_append, List.length_singleton]
   have hp : wrap64 (((Dec.cs (l' ++ [d])).length : Int) - 1) = (l'.length : Int) := by rw [hlen, Dec.w64 (by omega) (by omega)]; omega
   by_cases h0 : n = 0
   ·obtain rfl : l' = [] := List.eq_nil_of_length_eq_zero (by omega)
    refine Ev.step (f := fun k => (slices_Reverse_byte_byte.f k (Dec.cs ([] ++ [d]))).bind fun t205 => (some (strOfNums t205))) (fun k => ?_) (fin [] d hd Dec.Ds.nil (by rw [List.length_nil]; omega) (.inl rfl))
    rw [nat_Text.l2, hlen, if_neg (by rw [List.length_nil]; omega), if_neg (by rw [List.length_nil]; omega)]
   ·by_cases hd0 : d = 0
    ·subst hd0
     refine Ev.step (f := fun k => nat_Text.l2 k (Dec.cs l')) (fun k => ?_) ?_
     ·rw [nat_Text.l2, hp, hlen, if_pos (by omega), if_pos (by omega), if_pos (by omega), Dec.rd_cs, if_pos (by omega), if_pos (by omega), Int.toNat_natCast, Dec.cs_take, List.take_left]
     ·rw [Dec.dv_snoc, Nat.mul_zero, Nat.add_zero]
      exact ih hn' (by omega) h.left
    ·refine Ev.step (f := fun k => (slices_Reverse_byte_byte.f k (Dec.cs (l' ++ [d]))).bind fun t205 => (some (strOfNums t205))) (fun k => ?_) (fin l' d hd h.left (by omega) (.inr hd0))
     rw [nat_Text.l2, hp, hlen, if_pos (by omega), if_pos (by omega), if_pos (by omega), Dec.rd_cs, if_neg (by omega), if_neg (by omega)]
/-- Nine digits of what is left, then what follows. -/
theorem nat_Text.ev_1 {x4 : List Int} {r : ByteArray} (out : List Nat) (ho : Dec.Ds out) (hl : out.length < 2000000000) (m : Nat)
  (next : ∀ o2 : List Nat, o2.length = out.length + 9 → Dec.Ds o2 → Dec.dv o2 = Dec.dv out + 10 ^ out.length * m → Ev (fun k => nat_Text.l0 k x4 (Dec.cs o2)) r) (d : Nat) : ∀ (q : Nat) (o2 : List Nat) (j : Nat), j + d = 9 → q < 10 ^ d → o2.length = out.length + j → Dec.Ds o2 → Dec.dv o2 + 10 ^ o2.length * q = Dec.dv out + 10 ^ out.length * m →
  Ev (fun k => nat_Text.l1 k (Dec.cs o2) x4 (q : Int) (j : Int)) r := by
 induction d with
 | zero =>
  intro q o2 j hj hq hlo hd hv
  obtain rfl : q = 0 := by rw [Nat.pow_zero] at hq; omega
  refine Ev.step (f := fun k => nat_Text.l0 k x4 (Dec.cs o2)) (fun k => ?_) (next o2 (by omega) hd (by rw [Nat.mul_zero, Nat.add_zero] at hv; exact hv))
  rw [nat_Text.l1, if_neg (by omega)]
 | succ d ih =>
  intro q o2 j hj hq hlo hd hv
  have hq9 : q < 10 ^ 9 := Nat.lt_of_lt_of_le hq (Nat.pow_le_pow_right (by omega) (by omega))
  have hq10 : q < 1000000000 := hq9
  refine Ev.step (f := fun k => nat_Text.l1 k (Dec.cs (o2 ++ [q % 10])) x4 ((q / 10 : Nat) : Int) ((j + 1 : Nat) : Int)) (fun k => ?_) ?_
  ·have e1 : (IntKind.u64.wrap (48 + ((q % 10 : Nat) : Int))) % 256 = ((48 + q % 10 : Nat) : Int) := by
    rw [show (48 : Int) + ((q % 10 : Nat) : Int) = ((48 + q % 10 : Nat) : Int) from by omega, u64_nat _ (by omega)]
    omega
   rw [nat_Text.l1, if_pos (by omega), if_pos (by rw [Dec.cs_length]; omega), Dec.tmod10, Dec.tdiv10, e1, u64_nat _ (by omega), Dec.cs_snoc, Dec.w64s _ (by omega)]
  ·refine ih (q / 10) _ (j + 1) (by omega) (by rw [Nat.pow_succ] at hq; omega) (by rw [List.length_append, List.length_singleton]; omega) (hd.snoc (Nat.mod_lt _ (by omega))) ?_
   rw [Dec.dv_snoc, List.length_append, List.length_singleton, Nat.pow_succ, ← hv]
   have h3 : 10 ^ o2.length * q = 10 ^ o2.length * (q % 10 + 10 * (q / 10)) := by congr 1; omega
   rw [Nat.mul_add, ← Nat.mul_assoc] at h3
   omega
theorem nat_Text.ev_0 (d : Nat) : ∀ (n : Nat) (out : List Nat), n < 1000000000 ^ d → (Num.nd n).length < 100000000 → out.length + 9 * d < 2000000000 → Dec.Ds out → Ev (fun k => nat_Text.l0 k (Num.nd n) (Dec.cs out)) (Dec.dec (Dec.dv out + 10 ^ out.length * n)) := by
 have stop : ∀ out : List Nat, out.length < 2000000000 → Dec.Ds out → Ev (fun k => nat_Text.l0 k (Num.nd 0) (Dec.cs out)) (Dec.dec (Dec.dv out + 10 ^ out.length * 0)) := by
  intro out hl ho
  rw [Nat.mul_zero, Nat.add_zero, Num.nd_zero]
  refine Ev.step (f := fun k => nat_Text.l2 k (Dec.cs out)) (fun k => ?_) (nat_Text.ev_2 _ rfl (by omega) ho)
  rw [nat_Text.l0, if_neg (by rw [List.length_nil]; omega)]
 induction d with
 | zero =>
  intro n out hn hl ho hd
  obtain rfl : n = 0 := by rw [Nat.pow_zero] at hn; omega
  exact stop out (by omega) hd
 | succ d ih =>
  intro n out hn hl ho hd
  by_cases h0 : n = 0
  ·subst h0
   exact stop out (by omega) hd
  ·have h2 : 0 < (Num.nd n).length := by
    rcases Nat.eq_zero_or_pos (Num.nd n).length with h | h
    ·exact absurd (Num.nd_eq_nil.1 (List.eq_nil_of_length_eq_zero h)) h0
    ·exact h
   obtain ⟨B, hB⟩ : ∃ B : Nat, B = 1000000000 := ⟨_, rfl⟩
   have hBi : (1000000000 : Int) = (B : Int) := by omega
   have hdm : ∀ k, nat_DivMod.f k (Num.nd n) (Num.nd B) = some (Num.nd (n / B), Num.nd (n % B), 0) := by
    intro k
    unfold nat_DivMod.f
    have h9 : (Num.nd B).length ≤ 1 := Num.nd_length_le (k := 1) (by rw [hB]; decide)
    rw [if_pos ((Num.okd_iff _).2 ⟨by omega, Num.Ws_nd _⟩), if_pos ((Num.okd_iff _).2 ⟨by omega, Num.Ws_nd _⟩), Num.nv_nd, Num.nv_nd, if_neg (by omega)]
   have hmod : n % B < 1000000000 := by rw [hB]; exact Nat.mod_lt _ (by omega)
   have hsm : ∀ k, nat_Small.f k (Num.nd (n % B)) = some (((n % B : Nat) : Int), true) := by
    intro k
    unfold nat_Small.f
    have h9 : (Num.nd (n % B)).length ≤ 1 := Num.nd_length_le (k := 1) (Nat.lt_trans hmod (by decide))
    rw [if_pos (Num.okw_of (by omega) (Num.Ws_nd _)), Num.nv_nd, if_pos (by omega)]
   have hof := nat_Of.ev B (by omega)
   refine Ev.step (f := fun k => (nat_Of.f k (B : Int)).bind fun t186 => ((nat_DivMod.f k (Num.nd n) t186).bind fun bt189 => ((nat_Small.f k bt189.2.1).bind fun bt196 => (nat_Text.l1 k (Dec.cs out) bt189.1 bt196.1 0)))) (fun k => ?_) (Ev.bind hof (Ev.bind (Ev.congr hdm (Ev.now _)) (Ev.bind (Ev.congr hsm (Ev.now _)) ?_)))
   ·rw [nat_Text.l0, if_pos (by omega), hBi]
   ·have hdv : (n / B) * B + n % B = n := by rw [Nat.mul_comm]; exact Nat.div_add_mod n B
    refine nat_Text.ev_1 out hd (by omega) (n % B) (fun o2 hl2 hd2 hv2 => ?_) 9 (n % B) out 0 (by omega) hmod rfl hd rfl
    have := ih (n / B) o2 (by rw [Nat.pow_succ] at hn; rw [hB]; exact Nat.div_lt_of_lt_mul (by rw [Nat.mul_comm]; exact hn)) (Nat.lt_of_le_of_lt (Num.nd_len_mono (Nat.div_le_self _ _)) hl) (by omega) hd2
    rw [hv2, hl2, Nat.pow_add, show 10 ^ 9 = B from by rw [hB]] at this
    have e : Dec.dv out + 10 ^ out.length * (n % B) + 10 ^ out.length * B * (n / B) = Dec.dv out + 10 ^ out.length * n := by
     rw [Nat.mul_assoc, Nat.add_assoc, ← Nat.mul_add, Nat.mul_comm B, Nat.add_comm (n % B), hdv]
    rw [e] at this
    exact this
theorem nat_Text.ev {l : List Int} (hW : Num.Ws l) (hl : l.length < 10000000) : Ev (fun k => nat_Text.f k l) (Dec.dec (Num.nv l)) := by
 have hlt := Num.nv_lt hW
 have hp : 2 ^ (32 * l.length) ≤ 1000000000 ^ (2 * l.length) := by
  rw [Nat.pow_mul, Nat.pow_mul]
  exact Nat.pow_le_pow_left (by decide) _
 have := nat_Text.ev_0 (2 * l.length) (Num.nv l) [] (Nat.lt_of_lt_of_le hlt hp) (Nat.lt_of_le_of_lt (Num.nd_length_le hlt) (by omega)) (by rw [List.length_nil]; omega) Dec.Ds.nil
 rw [List.length_nil, Dec.dv, Nat.pow_zero, Nat.one_mul, Nat.zero_add] at this
 unfold nat_Text.f
 exact Ev.bind (nat_trim.ev hW (by omega)) this
set_option synthInstance.checkSynthOrder false in
open Lin in
instance nat_Text.t {k : Nat} {l0 : List Int} {r : ByteArray} [h : Ans (nat_Text.f k l0) r] : Tl Try.prog 59 [.one (.row l0)] (.el (.one (.val (.string r)))) := ⟨Tells.of Try.func59 fun out w vs ho hl hv => by
 obtain ⟨u0, rfl, h0⟩ := args1 hl hv
 obtain ⟨A0, c0, rfl, hc0, hr0, hb0⟩ := h0
 refine (nat_Text.calls k A0 c0 l0 _ w hr0 hc0 h.out).mono ?_
 rintro e w' ⟨rfl, hb⟩
 exact ⟨_, rfl, ⟨rfl, rfl⟩, hb⟩⟩
def whole_Sign.f (k : Nat) (a0_0 : Bool) (l0_1 : List Int) : Option (Int) := (whole_Make.f k a0_0 l0_1).bind fun bt136 => (if (bt136.2.length : Int) = 0 then (some 0) else (if bt136.1 = true then (some (-1)) else (some 1)))
theorem whole_Sign.ev {m : Bool} {l : List Int} {z : Int} {K : Nat} (h : Zn.Is m l z K) (hK : K < 1000000) : Ev (fun k => whole_Sign.f k m l) z.sign := by
 unfold whole_Sign.f
 refine Ev.bind (whole_Make.ev h hK) ?_
 show Ev (fun _ => if ((Num.nd z.natAbs).length : Int) = 0 then some 0 else if decide (z < 0) = true then some (-1) else some 1) _
 have hp := Zn.nd_len_pos z.natAbs
 rcases Zn.sign_cases z with ⟨hz, e⟩ | ⟨hz, e⟩ | ⟨hz, e⟩ <;> rw [e]
 ·have := hp.2 (by omega)
  exact Dec.no (by omega) (Dec.yes (decide_eq_true hz) (Ev.now _))
 ·subst hz
  exact Dec.yes (by rw [show (0 : Int).natAbs = 0 from rfl, Num.nd_zero]; rfl) (Ev.now _)
 ·have := hp.2 (by omega)
  exact Dec.no (by omega) (Dec.no (by rw [decide_eq_false (by omega)]; decide) (Ev.now _))
set_option synthInstance.checkSynthOrder false in
open Lin in
set_option maxHeartbeats 4000000 in
instance whole_Sign.t {k : Nat} {a0_0 : Bool} {l0_1 : List Int} {r : Int} [h : Ans (whole_Sign.f k a0_0 l0_1) r] : Tl Try.prog 49 [.agg [.val (.bool a0_0), .row l0_1]] (.el (.one (.val (.int .i64 r)))) := by
 have h := h.out
 unfold whole_Sign.f at h
 repeat' (first | (replace h := Lin.bndK h) | (replace h := Lin.bnd h; obtain ⟨_, _, h⟩ := h) | split at h | cases h)
 all_goals exact ⟨Tells.go Try.func49 Try.ntmps49⟩
def whole_Text.f (k : Nat) (a0_0 : Bool) (l0_1 : List Int) : Option (ByteArray) := (whole_Sign.f k a0_0 l0_1).bind fun t217 => (if t217 < 0 then ((nat_Text.f k l0_1).bind fun t218 => (if 1 + t218.size ≤ 9223372036854775807 then (some ((⟨#[45]⟩ : ByteArray) ++ t218)) else (none))) else ((nat_Text.f k l0_1).bind fun t219 => (some t219)))
theorem whole_Text.ev {m : Bool} {l : List Int} {z : Int} {K : Nat} (h : Zn.Is m l z K) (hK : K < 1000000) : Ev (fun k => whole_Text.f k m l) (Zn.tz z) := by
 have hl := h.len
 have T := nat_Text.ev h.ws (by omega)
 rw [← h.abs] at T
 unfold whole_Text.f
 refine Ev.bind (whole_Sign.ev h hK) ?_
 by_cases hz : z < 0
 ·rw [Zn.tz_neg hz]
  refine Dec.yes ((Zn.sign_lt z).2 hz) (Ev.bind T (Dec.yes ?_ (Ev.now _)))
  have := Dec.dc_len32 (n := z.natAbs) (k := K + 1) (by omega) (Num.le_pow h.lt (by omega))
  rw [Zn.dec_size]
  omega
 ·rw [Zn.tz_pos hz]
  exact Dec.no (fun e => hz ((Zn.sign_lt z).1 e)) (Ev.bind T (Ev.now _))
set_option synthInstance.checkSynthOrder false in
open Lin in
set_option maxHeartbeats 4000000 in
instance whole_Text.t {k : Nat} {a0_0 : Bool} {l0_1 : List Int} {r : ByteArray} [h : Ans (whole_Text.f k a0_0 l0_1) r] : Tl Try.prog 20 [.agg [.val (.bool a0_0), .row l0_1]] (.el (.one (.val (.string r)))) := by
 have h := h.out
 unfold whole_Text.f at h
 repeat' (first | (replace h := Lin.bndK h) | (replace h := Lin.bnd h; obtain ⟨_, _, h⟩ := h) | split at h | cases h)
 all_goals exact ⟨Tells.go Try.func20 Try.ntmps20⟩
def rat_Whole.f (k : Nat) (a0_0 : Bool) (l0_1 : List Int) (l0_2 : List Int) : Option (Bool) := (rat_Make.f k a0_0 l0_1 l0_2).bind fun bt543 => ((nat_Of.f k 1).bind fun t550 => ((nat_Compare.f k bt543.2.2 t550).bind fun t553 => (some (t553 == 0))))
theorem rat_Whole.ev {m : Bool} {l1 l2 : List Int} {r : Rat} {K : Nat} (h : Qn.Is m l1 l2 r K) (hK1 : 1 ≤ K) (hK : K < 300000) : Ev (fun k => rat_Whole.f k m l1 l2) (decide (r.den = 1)) := by
 have M := rat_Make.ev h.num h.ws h.len hK1 (by omega)
 rw [h.val] at M
 have od := Num.ok_nd (h.sm hK1).den (by omega)
 have o1 := Num.ok_nd (n := 1) (k := 1) (by decide) (by omega)
 have C : ∀ k, nat_Compare.f k (Num.nd r.den) (Num.nd 1) = some (Num.cmp r.den 1) := fun k => by unfold nat_Compare.f; rw [if_pos od, if_pos o1, Num.nv_nd, Num.nv_nd]
 unfold rat_Whole.f
 refine Ev.bind M (Ev.bind (nat_Of.ev 1 (by omega)) (Dec.val C ?_))
 have e : (Num.cmp r.den 1 == 0) = decide (r.den = 1) := by
  by_cases hd : r.den = 1
  ·rw [decide_eq_true hd, Num.cmp_eq hd]; rfl
  ·rw [decide_eq_false hd]
   exact beq_eq_false_iff_ne.2 (fun e => hd (Num.cmp_zero.1 e))
 rw [e]
 exact Ev.now _
set_option synthInstance.checkSynthOrder false in
open Lin in
set_option maxHeartbeats 4000000 in
instance rat_Whole.t {k : Nat} {a0_0 : Bool} {l0_1 : List Int} {l0_2 : List Int} {r : Bool} [h : Ans (rat_Whole.f k a0_0 l0_1 l0_2) r] : Tl Try.prog 23 [.agg [.val (.bool a0_0), .row l0_1, .row l0_2]] (.el (.one (.val (.bool r)))) := by
 have h := h.out
 unfold rat_Whole.f at h
 repeat' (first | (replace h := Lin.bndK h) | (replace h := Lin.bnd h; obtain ⟨_, _, h⟩ := h) | split at h | cases h)
 all_goals exact ⟨Tells.go Try.func23 Try.ntmps23⟩
def rat_Text.f (k : Nat) (a0_0 : Bool) (l0_1 : List Int) (l0_2 : List Int) : Option (ByteArray) := (rat_Make.f k a0_0 l0_1 l0_2).bind fun bt555 => ((rat_Whole.f k bt555.1 bt555.2.1 bt555.2.2).bind fun t562 => (if t562 = true then ((whole_Text.f k bt555.1 bt555.2.1).bind fun t563 => (some t563)) else ((whole_Text.f k bt555.1 bt555.2.1).bind fun t564 => (if t564.size + 1 ≤ 9223372036854775807 then ((nat_Text.f k bt555.2.2).bind fun t565 => (if (t564 ++ (⟨#[47]⟩ : ByteArray)).size + t565.size ≤ 9223372036854775807 then (some ((t564 ++ (⟨#[47]⟩ : ByteArray)) ++ t565)) else (none))) else (none)))))
def rat_Text.tq (r : Rat) : ByteArray := if r.den = 1 then Zn.tz r.num else (Zn.tz r.num ++ (⟨#[47]⟩ : ByteArray)) ++ Dec.dec r.den
theorem rat_Text.ev {m : Bool} {l1 l2 : List Int} {r : Rat} {K : Nat} (h : Qn.Is m l1 l2 r K) (hK1 : 1 ≤ K) (hK : K < 300000) : Ev (fun k => rat_Text.f k m l1 l2) (rat_Text.tq r) := by
 have M := rat_Make.ev h.num h.ws h.len hK1 (by omega)
 rw [h.val] at M
 have S := h.sm hK1
 have T := whole_Text.ev (Zn.Is.zd S.num) (by omega)
 have B := nat_Text.ev (Num.Ws_nd r.den) (by have := Num.nd_length_le S.den; omega)
 rw [Num.nv_nd] at B
 have s1 := Zn.tz_size_le hK1 S.num
 have s2 := Dec.dc_len32 hK1 S.den
 unfold rat_Text.f rat_Text.tq
 refine Ev.bind M (Ev.bind (rat_Whole.ev (Qn.Is.qd S) hK1 hK) ?_)
 by_cases hd : r.den = 1
 ·rw [if_pos hd]
  exact Dec.yes (decide_eq_true hd) (Ev.bind T (Ev.now _))
 ·rw [if_neg hd]
  refine Dec.no (by rw [decide_eq_false hd]; decide) (Ev.bind T (Dec.yes (by omega) (Ev.bind B (Dec.yes ?_ (Ev.now _)))))
  rw [ByteArray.size_append, Zn.dec_size]
  have : (⟨#[47]⟩ : ByteArray).size = 1 := rfl
  omega
set_option synthInstance.checkSynthOrder false in
open Lin in
set_option maxHeartbeats 4000000 in
instance rat_Text.t {k : Nat} {a0_0 : Bool} {l0_1 : List Int} {l0_2 : List Int} {r : ByteArray} [h : Ans (rat_Text.f k a0_0 l0_1 l0_2) r] : Tl Try.prog 38 [.agg [.val (.bool a0_0), .row l0_1, .row l0_2]] (.el (.one (.val (.string r)))) := by
 have h := h.out
 unfold rat_Text.f at h
 repeat' (first | (replace h := Lin.bndK h) | (replace h := Lin.bnd h; obtain ⟨_, _, h⟩ := h) | split at h | cases h)
 all_goals exact ⟨Tells.go Try.func38 Try.ntmps38⟩
def whole_Of.f (k : Nat) (a0 : Int) : Option (Bool × List Int) := (nat_Of.f k (IntKind.u64.wrap (mx a0 (wrap64 (-a0))))).bind fun t231 => ((whole_Make.f k (decide (a0 < 0)) t231).bind fun bt234 => (some (bt234.1, bt234.2)))
theorem whole_Of.ev (n : Int) (h0 : -9223372036854775808 ≤ n) (h1 : n < 9223372036854775808) : Ev (fun k => whole_Of.f k n) (Zn.zd n) := by
 have e : IntKind.u64.wrap (mx n (wrap64 (-n))) = (n.natAbs : Int) := by
  have u : ∀ x : Int, IntKind.u64.wrap x = x % 18446744073709551616 := fun x => by simp [IntKind.wrap, IntKind.bits, IntKind.signed]
  rw [u]
  by_cases hm : n = -9223372036854775808
  ·subst hm
   have w : wrap64 (- (-9223372036854775808 : Int)) = -9223372036854775808 := by unfold wrap64; omega
   rw [w]
   unfold mx
   split <;> omega
  ·rw [Dec.w64 (by omega) (by omega)]
   unfold mx
   split <;> omega
 have O := nat_Of.ev n.natAbs (by omega)
 unfold whole_Of.f
 rw [e]
 have M := whole_Make.ev (Zn.Is.nd (K := 2) (n := n.natAbs) (m := decide (n < 0)) (by omega)) (by omega)
 rw [Zn.zv_self] at M
 exact Ev.bind O (Ev.bind M (Ev.now _))
set_option synthInstance.checkSynthOrder false in
open Lin in
set_option maxHeartbeats 4000000 in
instance whole_Of.t {k : Nat} {a0 : Int} {r : Bool × List Int} [h : Ans (whole_Of.f k a0) r] : Tl Try.prog 26 [.one (.val (.int .i64 a0))] (.el (.agg [.val (.bool r.1), .row r.2])) := by
 have h := h.out
 unfold whole_Of.f at h
 repeat' (first | (replace h := Lin.bndK h) | (replace h := Lin.bnd h; obtain ⟨_, _, h⟩ := h) | split at h | cases h)
 all_goals exact ⟨Tells.go Try.func26 Try.ntmps26⟩
def whole_Neg.f (k : Nat) (a0_0 : Bool) (l0_1 : List Int) : Option (Bool × List Int) := (whole_Make.f k (!a0_0) l0_1).bind fun bt263 => (some (bt263.1, bt263.2))
theorem whole_Neg.ev {m : Bool} {l : List Int} {z : Int} {K : Nat} (h : Zn.Is m l z K) (hK : K < 1000000) : Ev (fun k => whole_Neg.f k m l) (Zn.zd (-z)) := by
 unfold whole_Neg.f
 exact Ev.bind (whole_Make.ev h.neg hK) (Ev.now _)
set_option synthInstance.checkSynthOrder false in
open Lin in
set_option maxHeartbeats 4000000 in
instance whole_Neg.t {k : Nat} {a0_0 : Bool} {l0_1 : List Int} {r : Bool × List Int} [h : Ans (whole_Neg.f k a0_0 l0_1) r] : Tl Try.prog 61 [.agg [.val (.bool a0_0), .row l0_1]] (.el (.agg [.val (.bool r.1), .row r.2])) := by
 have h := h.out
 unfold whole_Neg.f at h
 repeat' (first | (replace h := Lin.bndK h) | (replace h := Lin.bnd h; obtain ⟨_, _, h⟩ := h) | split at h | cases h)
 all_goals exact ⟨Tells.go Try.func61 Try.ntmps61⟩
def whole_Add.f (k : Nat) (a0_0 : Bool) (l0_1 : List Int) (a1_0 : Bool) (l1_1 : List Int) : Option (Bool × List Int) := (whole_Sign.f k a0_0 l0_1).bind fun t279 => ((whole_Sign.f k a1_0 l1_1).bind fun t280 => (if ((decide (t279 < 0)) == (decide (t280 < 0))) = true then ((whole_Sign.f k a0_0 l0_1).bind fun t281 => ((nat_Add.f k l0_1 l1_1).bind fun t282 => ((whole_Make.f k (decide (t281 < 0)) t282).bind fun bt285 => (some (bt285.1, bt285.2))))) else ((nat_Sub.f k l0_1 l1_1).bind fun bt289 => (if bt289.2 = true then ((whole_Sign.f k a0_0 l0_1).bind fun t293 => ((whole_Make.f k (decide (t293 < 0)) bt289.1).bind fun bt294 => (some (bt294.1, bt294.2)))) else ((nat_Sub.f k l1_1 l0_1).bind fun bt298 => ((whole_Sign.f k a1_0 l1_1).bind fun t302 => ((whole_Make.f k (decide (t302 < 0)) bt298.1).bind fun bt303 => (some (bt303.1, bt303.2)))))))))
theorem whole_Add.ev {m m' : Bool} {l l' : List Int} {a b : Int} {K : Nat} (ha : Zn.Is m l a K) (hb : Zn.Is m' l' b K) (hK : K < 900000) : Ev (fun k => whole_Add.f k m l m' l') (Zn.zd (a + b)) := by
 have oa := ha.ok (by omega)
 have ob := hb.ok (by omega)
 have la := ha.lt
 have lb := hb.lt
 unfold whole_Add.f
 refine Ev.bind (whole_Sign.ev ha (by omega)) (Ev.bind (whole_Sign.ev hb (by omega)) ?_)
 have da : decide (a.sign < 0) = decide (a < 0) := decide_eq_decide.2 (Zn.sign_lt a)
 have db : decide (b.sign < 0) = decide (b < 0) := decide_eq_decide.2 (Zn.sign_lt b)
 have A := nat_Add.ev oa ob
 have S1 := nat_Sub.ev oa ob
 have S2 := nat_Sub.ev ob oa
 rw [← ha.abs, ← hb.abs] at A S1 S2
 by_cases h : a < 0 ↔ b < 0
 ·refine Dec.yes (by rw [da, db, beq_iff_eq]; exact decide_eq_decide.2 h) (Ev.bind (whole_Sign.ev ha (by omega)) (Ev.bind A ?_))
  have M := whole_Make.ev (Zn.Is.nd (m := decide (a.sign < 0)) (Num.add_lt la lb)) (by omega)
  rw [da, Zn.add_same h] at M
  refine Ev.congr (fun k => ?_) (Ev.bind M (Ev.now _))
  rw [da]
 ·refine Dec.no (by rw [da, db, beq_iff_eq]; exact fun e => h (decide_eq_decide.1 e)) ?_
  by_cases hl : a.natAbs < b.natAbs
  ·rw [if_pos hl] at S1
   rw [if_neg (by omega)] at S2
   refine Ev.bind S1 (Dec.no (by decide) (Ev.bind S2 (Ev.bind (whole_Sign.ev hb (by omega)) ?_)))
   have M := whole_Make.ev (Zn.Is.nd (K := K) (n := b.natAbs - a.natAbs) (m := decide (b.sign < 0)) (by omega)) (by omega)
   rw [db, Zn.add_right h hl] at M
   refine Ev.congr (fun k => ?_) (Ev.bind M (Ev.now _))
   rw [db]
  ·rw [if_neg hl] at S1
   refine Ev.bind S1 (Dec.yes rfl (Ev.bind (whole_Sign.ev ha (by omega)) ?_))
   have M := whole_Make.ev (Zn.Is.nd (K := K) (n := a.natAbs - b.natAbs) (m := decide (a.sign < 0)) (by omega)) (by omega)
   rw [da, Zn.add_left h (by omega)] at M
   refine Ev.congr (fun k => ?_) (Ev.bind M (Ev.now _))
   rw [da]
set_option synthInstance.checkSynthOrder false in
open Lin in
set_option maxHeartbeats 4000000 in
instance whole_Add.t {k : Nat} {a0_0 : Bool} {l0_1 : List Int} {a1_0 : Bool} {l1_1 : List Int} {r : Bool × List Int} [h : Ans (whole_Add.f k a0_0 l0_1 a1_0 l1_1) r] : Tl Try.prog 64 [.agg [.val (.bool a0_0), .row l0_1], .agg [.val (.bool a1_0), .row l1_1]] (.el (.agg [.val (.bool r.1), .row r.2])) := by
 have h := h.out
 unfold whole_Add.f at h
 repeat' (first | (replace h := Lin.bndK h) | (replace h := Lin.bnd h; obtain ⟨_, _, h⟩ := h) | split at h | cases h)
 all_goals exact ⟨Tells.go Try.func64 Try.ntmps64⟩
def whole_Sub.f (k : Nat) (a0_0 : Bool) (l0_1 : List Int) (a1_0 : Bool) (l1_1 : List Int) : Option (Bool × List Int) := (whole_Neg.f k a1_0 l1_1).bind fun bt310 => ((whole_Add.f k a0_0 l0_1 bt310.1 bt310.2).bind fun bt314 => (some (bt314.1, bt314.2)))
theorem whole_Sub.ev {m m' : Bool} {l l' : List Int} {a b : Int} {K : Nat} (ha : Zn.Is m l a K) (hb : Zn.Is m' l' b K) (hK : K < 900000) : Ev (fun k => whole_Sub.f k m l m' l') (Zn.zd (a - b)) := by
 unfold whole_Sub.f
 rw [Int.sub_eq_add_neg]
 exact Ev.bind (whole_Neg.ev hb (by omega)) (Ev.bind (whole_Add.ev ha (Zn.Is.zd (Zn.abs_neg hb.lt)) hK) (Ev.now _))
set_option synthInstance.checkSynthOrder false in
open Lin in
set_option maxHeartbeats 4000000 in
instance whole_Sub.t {k : Nat} {a0_0 : Bool} {l0_1 : List Int} {a1_0 : Bool} {l1_1 : List Int} {r : Bool × List Int} [h : Ans (whole_Sub.f k a0_0 l0_1 a1_0 l1_1) r] : Tl Try.prog 86 [.agg [.val (.bool a0_0), .row l0_1], .agg [.val (.bool a1_0), .row l1_1]] (.el (.agg [.val (.bool r.1), .row r.2])) := by
 have h := h.out
 unfold whole_Sub.f at h
 repeat' (first | (replace h := Lin.bndK h) | (replace h := Lin.bnd h; obtain ⟨_, _, h⟩ := h) | split at h | cases h)
 all_goals exact ⟨Tells.go Try.func86 Try.ntmps86⟩
def whole_Mul.f (k : Nat) (a0_0 : Bool) (l0_1 : List Int) (a1_0 : Bool) (l1_1 : List Int) : Option (Bool × List Int) := (whole_Sign.f k a0_0 l0_1).bind fun t252 => ((whole_Sign.f k a1_0 l1_1).bind fun t253 => ((nat_Mul.f k l0_1 l1_1).bind fun t254 => ((whole_Make.f k (decide ((wrap64 (t252 * t253)) < 0)) t254).bind fun bt257 => (some (bt257.1, bt257.2)))))
theorem whole_Mul.ev {m m' : Bool} {l l' : List Int} {a b : Int} {K J : Nat} (ha : Zn.Is m l a K) (hb : Zn.Is m' l' b J) (hK : K + J < 1000000) : Ev (fun k => whole_Mul.f k m l m' l') (Zn.zd (a * b)) := by
 have M := nat_Mul.ev (ha.ok (by omega)) (hb.ok (by omega))
 rw [← ha.abs, ← hb.abs] at M
 unfold whole_Mul.f
 refine Ev.bind (whole_Sign.ev ha (by omega)) (Ev.bind (whole_Sign.ev hb (by omega)) (Ev.bind M ?_))
 have d : decide (wrap64 (a.sign * b.sign) < 0) = decide (a * b < 0) := by rw [Zn.w64_sign]; exact decide_eq_decide.2 (Zn.sign_mul_neg a b)
 have R := whole_Make.ev (Zn.Is.nd (m := decide (a * b < 0)) (Num.mul_lt ha.lt hb.lt)) hK
 rw [Zn.mul_sign] at R
 refine Ev.congr (fun k => ?_) (Ev.bind R (Ev.now _))
 rw [d]
set_option synthInstance.checkSynthOrder false in
open Lin in
set_option maxHeartbeats 4000000 in
instance whole_Mul.t {k : Nat} {a0_0 : Bool} {l0_1 : List Int} {a1_0 : Bool} {l1_1 : List Int} {r : Bool × List Int} [h : Ans (whole_Mul.f k a0_0 l0_1 a1_0 l1_1) r] : Tl Try.prog 67 [.agg [.val (.bool a0_0), .row l0_1], .agg [.val (.bool a1_0), .row l1_1]] (.el (.agg [.val (.bool r.1), .row r.2])) := by
 have h := h.out
 unfold whole_Mul.f at h
 repeat' (first | (replace h := Lin.bndK h) | (replace h := Lin.bnd h; obtain ⟨_, _, h⟩ := h) | split at h | cases h)
 all_goals exact ⟨Tells.go Try.func67 Try.ntmps67⟩
def whole_Floor_cl1.f (k : Nat) (a0_0 : Bool) (l0_1 : List Int) (a1_0 : Bool) (l1_1 : List Int) (a2_0 : Bool) (l2_1 : List Int) : Option (Bool × List Int) := (whole_Mul.f k a1_0 l1_1 a2_0 l2_1).bind fun bt322 => ((whole_Sub.f k a0_0 l0_1 bt322.1 bt322.2).bind fun bt326 => (some (bt326.1, bt326.2)))
theorem whole_Floor_cl1.ev {m m' m2 : Bool} {l l' l2 : List Int} {a b x : Int} {K J : Nat} (ha : Zn.Is m l a (K + J)) (hb : Zn.Is m' l' b K) (hx : Zn.Is m2 l2 x J) (hK : K + J < 900000) : Ev (fun k => whole_Floor_cl1.f k m l m' l' m2 l2) (Zn.zd (a - b * x)) := by
 unfold whole_Floor_cl1.f
 exact Ev.bind (whole_Mul.ev hb hx (by omega)) (Ev.bind (whole_Sub.ev ha (Zn.Is.zd (Zn.abs_mul hb.lt hx.lt)) hK) (Ev.now _))
set_option synthInstance.checkSynthOrder false in
open Lin in
set_option maxHeartbeats 4000000 in
instance whole_Floor_cl1.t {k : Nat} {a0_0 : Bool} {l0_1 : List Int} {a1_0 : Bool} {l1_1 : List Int} {a2_0 : Bool} {l2_1 : List Int} {r : Bool × List Int} [h : Ans (whole_Floor_cl1.f k a0_0 l0_1 a1_0 l1_1 a2_0 l2_1) r] : Tc Try.prog 85 [(25, [.val (.bool a0_0), .row l0_1]), (25, [.val (.bool a1_0), .row l1_1]), (25, [.val (.bool a2_0), .row l2_1])] (.el (.agg [.val (.bool r.1), .row r.2])) := by
 have h := h.out
 unfold whole_Floor_cl1.f at h
 repeat' (first | (replace h := Lin.bndK h) | (replace h := Lin.bnd h; obtain ⟨_, _, h⟩ := h) | split at h | cases h)
 all_goals exact ⟨TellsC.go3 Try.func85 Try.ntmps85⟩
def whole_Floor.f (k : Nat) (a0_0 : Bool) (l0_1 : List Int) (a1_0 : Bool) (l1_1 : List Int) : Option (Bool × List Int × Bool × List Int × Int) := (nat_DivMod.f k l0_1 l1_1).bind fun bt334 => (if bt334.2.2 = 0 then ((whole_Sign.f k a0_0 l0_1).bind fun t341 => ((whole_Sign.f k a1_0 l1_1).bind fun t342 => ((whole_Make.f k (decide ((wrap64 (t341 * t342)) < 0)) bt334.1).bind fun bt343 => ((whole_Floor_cl1.f k a0_0 l0_1 a1_0 l1_1 bt343.1 bt343.2).bind fun bt348 => ((whole_Sign.f k bt348.1 bt348.2).bind fun t352 => ((whole_Sign.f k a1_0 l1_1).bind fun t353 => (if (wrap64 (t352 * t353)) < 0 then ((whole_Of.f k 1).bind fun bt354 => ((whole_Sub.f k bt343.1 bt343.2 bt354.1 bt354.2).bind fun bt358 => ((whole_Floor_cl1.f k a0_0 l0_1 a1_0 l1_1 bt358.1 bt358.2).bind fun bt362 => (some (bt358.1, bt358.2, bt362.1, bt362.2, 0))))) else ((whole_Floor_cl1.f k a0_0 l0_1 a1_0 l1_1 bt343.1 bt343.2).bind fun bt366 => (some (bt343.1, bt343.2, bt366.1, bt366.2, 0)))))))))) else (some (false, ([] : List Int), false, ([] : List Int), bt334.2.2)))
theorem whole_Floor.ev0 {m m' : Bool} {l l' : List Int} {a b : Int} {K : Nat} (ha : Zn.Is m l a K) (hb : Zn.Is m' l' b K) (hK : K < 400000) (h0 : b = 0) : Ev (fun k => whole_Floor.f k m l m' l') (false, [], false, [], 5) := by
 have la := ha.len
 have lb := hb.len
 have D : ∀ k, nat_DivMod.f k l l' = some ([], [], 5) := fun k => by
  unfold nat_DivMod.f
  rw [if_pos ((Num.okd_iff l).2 ⟨by omega, ha.ws⟩), if_pos ((Num.okd_iff l').2 ⟨by omega, hb.ws⟩), if_pos (by rw [← hb.abs, h0]; rfl)]
 unfold whole_Floor.f
 exact Dec.val D (Dec.no (by decide) (Ev.now _))
theorem whole_Floor.ev {m m' : Bool} {l l' : List Int} {a b : Int} {K : Nat} (ha : Zn.Is m l a K) (hb : Zn.Is m' l' b K) (hK : K < 400000) (h0 : b ≠ 0) :
  Ev (fun k => whole_Floor.f k m l m' l') ((Zn.zd (Zn.fl a b).1).1, (Zn.zd (Zn.fl a b).1).2, (Zn.zd (Zn.fl a b).2).1, (Zn.zd (Zn.fl a b).2).2, 0) := by
 have la := ha.len
 have lb := hb.len
 have aa := ha.lt
 have D : ∀ k, nat_DivMod.f k l l' = some (Num.nd (a.natAbs / b.natAbs), Num.nd (a.natAbs % b.natAbs), 0) := fun k => by
  unfold nat_DivMod.f
  rw [if_pos ((Num.okd_iff l).2 ⟨by omega, ha.ws⟩), if_pos ((Num.okd_iff l').2 ⟨by omega, hb.ws⟩), if_neg (by rw [← hb.abs]; omega), ← ha.abs, ← hb.abs]
 have d : decide (wrap64 (a.sign * b.sign) < 0) = decide (a * b < 0) := by rw [Zn.w64_sign]; exact decide_eq_decide.2 (Zn.sign_mul_neg a b)
 have M := whole_Make.ev (Zn.Is.nd (m := decide (a * b < 0)) (Nat.lt_of_le_of_lt (Nat.div_le_self a.natAbs b.natAbs) aa)) (by omega)
 have eq : Zn.zv (decide (a * b < 0)) (a.natAbs / b.natAbs) = Zn.flq a b := rfl
 rw [eq] at M
 have hq : (Zn.flq a b).natAbs < 2 ^ (32 * K) := by
  unfold Zn.flq
  rw [Zn.natAbs_zv]
  exact Nat.lt_of_le_of_lt (Nat.div_le_self _ _) aa
 have Iq := Zn.Is.zd (Zn.abs_le hq (show K ≤ K + 1 by omega))
 have ha' := ha.le (show K ≤ K + (K + 1) by omega)
 have C1 := whole_Floor_cl1.ev ha' hb Iq (by omega)
 have er : a - b * Zn.flq a b = Zn.flr a b := rfl
 rw [er] at C1
 have hr : (Zn.flr a b).natAbs < 2 ^ (32 * K) := Nat.lt_trans (Zn.flr_lt a b h0) hb.lt
 have Ir := Zn.Is.zd hr
 unfold whole_Floor.f
 refine Dec.val D (Dec.yes rfl (Ev.bind (whole_Sign.ev ha (by omega)) (Ev.bind (whole_Sign.ev hb (by omega)) ?_)))
 refine Ev.congr (f := fun k => (whole_Make.f k (decide (a * b < 0)) (Num.nd (a.natAbs / b.natAbs))).bind fun bt310 => (whole_Floor_cl1.f k m l m' l' bt310.1 bt310.2).bind fun bt315 => (whole_Sign.f k bt315.1 bt315.2).bind fun t319 => (whole_Sign.f k m' l').bind fun t320 => if (wrap64 (t319 * t320)) < 0 then ((whole_Of.f k 1).bind fun bt321 => ((whole_Sub.f k bt310.1 bt310.2 bt321.1 bt321.2).bind fun bt325 => ((whole_Floor_cl1.f k m l m' l' bt325.1 bt325.2).bind fun bt329 => (some (bt325.1, bt325.2, bt329.1, bt329.2, 0))))) else ((whole_Floor_cl1.f k m l m' l' bt310.1 bt310.2).bind fun bt333 => (some (bt310.1, bt310.2, bt333.1, bt333.2, 0)))) (fun k => by rw [d]) ?_
 refine Ev.bind M (Ev.bind C1 (Ev.bind (whole_Sign.ev Ir (by omega)) (Ev.bind (whole_Sign.ev hb (by omega)) ?_)))
 by_cases hn : Zn.flr a b * b < 0
 ·have e1 : Zn.fl a b = (Zn.flq a b - 1, a - b * (Zn.flq a b - 1)) := if_pos hn
  rw [e1]
  have O := whole_Of.ev 1 (by omega) (by omega)
  have I1 : Zn.Is (Zn.zd 1).1 (Zn.zd 1).2 1 K := Zn.Is.zd (by
   have := hb.lt
   have : 1 ≤ b.natAbs := by omega
   show 1 < _
   rcases Nat.eq_zero_or_pos K with e | e
   ·subst e; omega
   ·exact Nat.lt_of_lt_of_le (show 1 < 2 ^ 32 by decide) (Nat.pow_le_pow_right (by omega) (by omega)))
  have S := whole_Sub.ev (Zn.Is.zd hq) I1 (by omega)
  have Ix : Zn.Is (Zn.zd (Zn.flq a b - 1)).1 (Zn.zd (Zn.flq a b - 1)).2 (Zn.flq a b - 1) (K + 1) := Zn.Is.zd (Zn.abs_sub hq I1.lt)
  have C2 := whole_Floor_cl1.ev ha' hb Ix (by omega)
  exact Dec.yes (by rw [Zn.w64_sign]; exact (Zn.sign_mul_neg _ _).2 hn) (Ev.bind O (Ev.bind S (Ev.bind C2 (Ev.now _))))
 ·have e1 : Zn.fl a b = (Zn.flq a b, Zn.flr a b) := if_neg hn
  rw [e1]
  exact Dec.no (by rw [Zn.w64_sign]; exact fun e => hn ((Zn.sign_mul_neg _ _).1 e)) (Ev.bind C1 (Ev.now _))
set_option synthInstance.checkSynthOrder false in
open Lin in
set_option maxHeartbeats 4000000 in
instance whole_Floor.t {k : Nat} {a0_0 : Bool} {l0_1 : List Int} {a1_0 : Bool} {l1_1 : List Int} {r : Bool × List Int × Bool × List Int × Int} [h : Ans (whole_Floor.f k a0_0 l0_1 a1_0 l1_1) r] : Tl Try.prog 60 [.agg [.val (.bool a0_0), .row l0_1], .agg [.val (.bool a1_0), .row l1_1]] (.tup [.agg [.val (.bool r.1), .row r.2.1], .agg [.val (.bool r.2.2.1), .row r.2.2.2.1], .one (.val (.int .i64 r.2.2.2.2))]) := by
 have h := h.out
 unfold whole_Floor.f at h
 repeat' (first | (replace h := Lin.bndK h) | (replace h := Lin.bnd h; obtain ⟨_, _, h⟩ := h) | split at h | cases h)
 all_goals exact ⟨Tells.goC Try.func60 Try.ntmps60⟩
def rat_Floor.f (k : Nat) (a0_0 : Bool) (l0_1 : List Int) (l0_2 : List Int) : Option (Bool × List Int) := (rat_den.f k a0_0 l0_1 l0_2).bind fun t372 => ((whole_Make.f k false t372).bind fun bt375 => ((whole_Floor.f k a0_0 l0_1 bt375.1 bt375.2).bind fun bt379 => (some (bt379.1, bt379.2.1))))
theorem rat_Floor.ev {m : Bool} {l1 l2 : List Int} {r : Rat} {K : Nat} (h : Qn.Is m l1 l2 r K) (hK1 : 1 ≤ K) (hK : K < 300000) : Ev (fun k => rat_Floor.f k m l1 l2) (Zn.zd r.floor) := by
 have lb := h.len
 have I : Zn.Is false (Qn.dl l2) ((Qn.dn (Num.nv l2) : Nat) : Int) K := ⟨Qn.ws_dl h.ws, Qn.len_dl lb hK1, by rw [Qn.nv_dl]; rfl⟩
 have d0 := Qn.dn_ne (Num.nv l2)
 have F := whole_Floor.ev h.num (Zn.Is.zd I.lt) (by omega) (by omega)
 rw [(Qn.fl_ediv _ d0).1, ← Qn.floor_mk _ d0, h.val] at F
 unfold rat_Floor.f
 exact Ev.bind (rat_den.ev h.ws (by omega)) (Ev.bind (whole_Make.ev I (by omega)) (Ev.bind F (Ev.now _)))
theorem rat_Floor.size {r : Rat} {K : Nat} (h : Qn.Sm r K) : r.floor.natAbs < 2 ^ (32 * (K + 1)) := by
 rw [Rat.floor_def, ← (Qn.fl_ediv r.num r.den_nz).1]
 have h1 := Zn.fl_size r.num (r.den : Int)
 have h2 := h.num
 rw [Num.pow_succ32]
 omega
set_option synthInstance.checkSynthOrder false in
open Lin in
set_option maxHeartbeats 4000000 in
instance rat_Floor.t {k : Nat} {a0_0 : Bool} {l0_1 : List Int} {l0_2 : List Int} {r : Bool × List Int} [h : Ans (rat_Floor.f k a0_0 l0_1 l0_2) r] : Tl Try.prog 21 [.agg [.val (.bool a0_0), .row l0_1, .row l0_2]] (.el (.agg [.val (.bool r.1), .row r.2])) := by
 have h := h.out
 unfold rat_Floor.f at h
 repeat' (first | (replace h := Lin.bndK h) | (replace h := Lin.bnd h; obtain ⟨_, _, h⟩ := h) | split at h | cases h)
 all_goals exact ⟨Tells.go Try.func21 Try.ntmps21⟩
def rat_Neg.f (k : Nat) (a0_0 : Bool) (l0_1 : List Int) (l0_2 : List Int) : Option (Bool × List Int × List Int) := (whole_Neg.f k a0_0 l0_1).bind fun bt431 => ((rat_Make.f k bt431.1 bt431.2 l0_2).bind fun bt435 => (some (bt435.1, bt435.2.1, bt435.2.2)))
theorem rat_Neg.ev {m : Bool} {l1 l2 : List Int} {r : Rat} {K : Nat} (h : Qn.Is m l1 l2 r K) (hK1 : 1 ≤ K) (hK : K < 400000) : Ev (fun k => rat_Neg.f k m l1 l2) (Qn.qd (-r)) := by
 have M := rat_Make.ev (Zn.Is.zd (Zn.abs_neg h.num.lt)) h.ws h.len hK1 hK
 rw [← Rat.neg_mkRat, h.val] at M
 unfold rat_Neg.f
 exact Ev.bind (whole_Neg.ev h.num (by omega)) (Ev.bind M (Ev.now _))
set_option synthInstance.checkSynthOrder false in
open Lin in
set_option maxHeartbeats 4000000 in
instance rat_Neg.t {k : Nat} {a0_0 : Bool} {l0_1 : List Int} {l0_2 : List Int} {r : Bool × List Int × List Int} [h : Ans (rat_Neg.f k a0_0 l0_1 l0_2) r] : Tl Try.prog 33 [.agg [.val (.bool a0_0), .row l0_1, .row l0_2]] (.el (.agg [.val (.bool r.1), .row r.2.1, .row r.2.2])) := by
 have h := h.out
 unfold rat_Neg.f at h
 repeat' (first | (replace h := Lin.bndK h) | (replace h := Lin.bnd h; obtain ⟨_, _, h⟩ := h) | split at h | cases h)
 all_goals exact ⟨Tells.go Try.func33 Try.ntmps33⟩
def rat_Ceil.f (k : Nat) (a0_0 : Bool) (l0_1 : List Int) (l0_2 : List Int) : Option (Bool × List Int) := (rat_Neg.f k a0_0 l0_1 l0_2).bind fun bt444 => ((rat_Floor.f k bt444.1 bt444.2.1 bt444.2.2).bind fun bt451 => ((whole_Neg.f k bt451.1 bt451.2).bind fun bt455 => (some (bt455.1, bt455.2))))
theorem rat_Ceil.ev {m : Bool} {l1 l2 : List Int} {r : Rat} {K : Nat} (h : Qn.Is m l1 l2 r K) (hK1 : 1 ≤ K) (hK : K < 300000) : Ev (fun k => rat_Ceil.f k m l1 l2) (Zn.zd r.ceil) := by
 have S := (h.sm hK1).neg
 have N := whole_Neg.ev (Zn.Is.zd (rat_Floor.size S)) (by omega)
 rw [← Rat.ceil_eq_neg_floor_neg] at N
 unfold rat_Ceil.f
 exact Ev.bind (rat_Neg.ev h hK1 (by omega)) (Ev.bind (rat_Floor.ev (Qn.Is.qd S) hK1 hK) (Ev.bind N (Ev.now _)))
set_option synthInstance.checkSynthOrder false in
open Lin in
set_option maxHeartbeats 4000000 in
instance rat_Ceil.t {k : Nat} {a0_0 : Bool} {l0_1 : List Int} {l0_2 : List Int} {r : Bool × List Int} [h : Ans (rat_Ceil.f k a0_0 l0_1 l0_2) r] : Tl Try.prog 22 [.agg [.val (.bool a0_0), .row l0_1, .row l0_2]] (.el (.agg [.val (.bool r.1), .row r.2])) := by
 have h := h.out
 unfold rat_Ceil.f at h
 repeat' (first | (replace h := Lin.bndK h) | (replace h := Lin.bnd h; obtain ⟨_, _, h⟩ := h) | split at h | cases h)
 all_goals exact ⟨Tells.go Try.func22 Try.ntmps22⟩
def rat_Sign.f (k : Nat) (a0_0 : Bool) (l0_1 : List Int) (l0_2 : List Int) : Option (Int) := (whole_Sign.f k a0_0 l0_1).bind fun t460 => (some t460)
theorem rat_Sign.ev {m : Bool} {l1 l2 : List Int} {r : Rat} {K : Nat} (h : Qn.Is m l1 l2 r K) (hK : K < 400000) : Ev (fun k => rat_Sign.f k m l1 l2) r.num.sign := by
 have S := whole_Sign.ev h.num (by omega)
 have e := Qn.sign_num (Zn.zv m (Num.nv l1)) (Qn.dn (Num.nv l2)) (Qn.dn_ne _)
 rw [h.val] at e
 rw [e]
 unfold rat_Sign.f
 exact Ev.bind S (Ev.now _)
set_option synthInstance.checkSynthOrder false in
open Lin in
set_option maxHeartbeats 4000000 in
instance rat_Sign.t {k : Nat} {a0_0 : Bool} {l0_1 : List Int} {l0_2 : List Int} {r : Int} [h : Ans (rat_Sign.f k a0_0 l0_1 l0_2) r] : Tl Try.prog 14 [.agg [.val (.bool a0_0), .row l0_1, .row l0_2]] (.el (.one (.val (.int .i64 r)))) := by
 have h := h.out
 unfold rat_Sign.f at h
 repeat' (first | (replace h := Lin.bndK h) | (replace h := Lin.bnd h; obtain ⟨_, _, h⟩ := h) | split at h | cases h)
 all_goals exact ⟨Tells.go Try.func14 Try.ntmps14⟩
def rat_Mul.f (k : Nat) (a0_0 : Bool) (l0_1 : List Int) (l0_2 : List Int) (a1_0 : Bool) (l1_1 : List Int) (l1_2 : List Int) : Option (Bool × List Int × List Int) := (whole_Mul.f k a0_0 l0_1 a1_0 l1_1).bind fun bt464 => ((rat_den.f k a0_0 l0_1 l0_2).bind fun t468 => ((rat_den.f k a1_0 l1_1 l1_2).bind fun t471 => ((nat_Mul.f k t468 t471).bind fun t474 => ((rat_Make.f k bt464.1 bt464.2 t474).bind fun bt477 => (some (bt477.1, bt477.2.1, bt477.2.2))))))
theorem rat_Mul.ev {m m' : Bool} {l1 l2 k1 k2 : List Int} {a b : Rat} {K J : Nat} (ha : Qn.Is m l1 l2 a K) (hb : Qn.Is m' k1 k2 b J) (hK1 : 1 ≤ K) (hJ1 : 1 ≤ J) (hK : K + J < 400000) : Ev (fun k => rat_Mul.f k m l1 l2 m' k1 k2) (Qn.qd (a * b)) := by
 have da := Qn.dn_lt ha.ws ha.len hK1
 have db := Qn.dn_lt hb.ws hb.len hJ1
 have la := ha.len
 have lb := hb.len
 have La := Qn.len_dl la hK1
 have Lb := Qn.len_dl lb hJ1
 have P := nat_Mul.ev (Num.okw_of (l := Qn.dl l2) (by omega) (Qn.ws_dl ha.ws)) (Num.okw_of (l := Qn.dl k2) (by omega) (Qn.ws_dl hb.ws))
 rw [Qn.nv_dl, Qn.nv_dl] at P
 have M := rat_Make.ev (Zn.Is.zd (Zn.abs_mul ha.num.lt hb.num.lt)) (Num.Ws_nd (Qn.dn (Num.nv l2) * Qn.dn (Num.nv k2))) (Num.nd_length_le (Num.mul_lt da db)) (by omega) hK
 rw [Num.nv_nd, Qn.dn_self (Nat.mul_ne_zero (Qn.dn_ne _) (Qn.dn_ne _)), ← Rat.mkRat_mul_mkRat, ha.val, hb.val] at M
 unfold rat_Mul.f
 exact Ev.bind (whole_Mul.ev ha.num hb.num (by omega)) (Ev.bind (rat_den.ev ha.ws (by omega)) (Ev.bind (rat_den.ev hb.ws (by omega)) (Ev.bind P (Ev.bind M (Ev.now _)))))
set_option synthInstance.checkSynthOrder false in
open Lin in
set_option maxHeartbeats 4000000 in
instance rat_Mul.t {k : Nat} {a0_0 : Bool} {l0_1 : List Int} {l0_2 : List Int} {a1_0 : Bool} {l1_1 : List Int} {l1_2 : List Int} {r : Bool × List Int × List Int} [h : Ans (rat_Mul.f k a0_0 l0_1 l0_2 a1_0 l1_1 l1_2) r] : Tl Try.prog 32 [.agg [.val (.bool a0_0), .row l0_1, .row l0_2], .agg [.val (.bool a1_0), .row l1_1, .row l1_2]] (.el (.agg [.val (.bool r.1), .row r.2.1, .row r.2.2])) := by
 have h := h.out
 unfold rat_Mul.f at h
 repeat' (first | (replace h := Lin.bndK h) | (replace h := Lin.bnd h; obtain ⟨_, _, h⟩ := h) | split at h | cases h)
 all_goals exact ⟨Tells.go Try.func32 Try.ntmps32⟩
def rat_Div.f (k : Nat) (a0_0 : Bool) (l0_1 : List Int) (l0_2 : List Int) (a1_0 : Bool) (l1_1 : List Int) (l1_2 : List Int) : Option (Bool × List Int × List Int × Int) := (rat_Sign.f k a1_0 l1_1 l1_2).bind fun t487 => (if t487 = 0 then (some (false, ([] : List Int), ([] : List Int), 5)) else ((rat_Sign.f k a1_0 l1_1 l1_2).bind fun t488 => ((rat_den.f k a1_0 l1_1 l1_2).bind fun t489 => ((whole_Make.f k (decide (t488 < 0)) t489).bind fun bt492 => ((rat_Mul.f k a0_0 l0_1 l0_2 bt492.1 bt492.2 l1_1).bind fun bt497 => (some (bt497.1, bt497.2.1, bt497.2.2, 0)))))))
theorem rat_Div.sz {b : Rat} (h : b.num.sign = 0) : b = 0 := by
 have h1 : b.num = 0 := by
  rcases Zn.sign_cases b.num with ⟨_, e⟩ | ⟨e0, _⟩ | ⟨_, e⟩
  ·rw [e] at h; exact absurd h (by decide)
  ·exact e0
  ·rw [e] at h; exact absurd h (by decide)
 exact Rat.num_eq_zero.1 h1
theorem rat_Div.ev0 {m m' : Bool} {l1 l2 k1 k2 : List Int} {b : Rat} {J : Nat} (hb : Qn.Is m' k1 k2 b J) (hK : J < 300000) (h0 : b = 0) : Ev (fun k => rat_Div.f k m l1 l2 m' k1 k2) (false, [], [], 5) := by
 have S := rat_Sign.ev hb (by omega)
 unfold rat_Div.f
 refine Ev.bind S (Dec.yes ?_ (Ev.now _))
 rw [h0]
 rfl
theorem rat_Div.ev {m m' : Bool} {l1 l2 k1 k2 : List Int} {a b : Rat} {K J : Nat} (ha : Qn.Is m l1 l2 a K) (hb : Qn.Is m' k1 k2 b J) (hK1 : 1 ≤ K) (hJ1 : 1 ≤ J) (hK : K + J < 300000) (h0 : b ≠ 0) :
  Ev (fun k => rat_Div.f k m l1 l2 m' k1 k2) ((Qn.qd (a / b)).1, (Qn.qd (a / b)).2.1, (Qn.qd (a / b)).2.2, 0) := by
 have db := Qn.dn_lt hb.ws hb.len hJ1
 have lb := hb.len
 have S := rat_Sign.ev hb (by omega)
 have sg : b.num.sign = (Zn.zv m' (Num.nv k1)).sign := by
  have := Qn.sign_num (Zn.zv m' (Num.nv k1)) (Qn.dn (Num.nv k2)) (Qn.dn_ne _)
  rwa [hb.val] at this
 obtain ⟨s, hs⟩ : ∃ s, s = decide (b.num.sign < 0) := ⟨_, rfl⟩
 have I : Zn.Is s (Qn.dl k2) (Zn.zv s (Qn.dn (Num.nv k2))) J := ⟨Qn.ws_dl hb.ws, Qn.len_dl lb hJ1, by rw [Qn.nv_dl]⟩
 have p0 : Num.nv k1 ≠ 0 := by
  intro e
  apply h0
  apply rat_Div.sz
  rw [sg, e, Zn.zv_zero]
  rfl
 have T : Qn.Is (Zn.zd (Zn.zv s (Qn.dn (Num.nv k2)))).1 (Zn.zd (Zn.zv s (Qn.dn (Num.nv k2)))).2 k1 b⁻¹ J := by
  have Z := Zn.Is.zd I.lt
  refine ⟨?_, hb.num.ws, hb.num.len, ?_⟩
  ·rw [Z.val]
   exact Z
  ·rw [Z.val, Qn.dn_self p0, ← hb.val, Qn.inv_mk, Zn.natAbs_zv, hs, sg]
   congr 2
   exact decide_eq_decide.2 (Zn.sign_lt _)
 have M := rat_Mul.ev ha T hK1 hJ1 (by omega)
 rw [← Rat.div_def] at M
 unfold rat_Div.f
 refine Ev.bind S (Dec.no (fun e => h0 (rat_Div.sz e)) (Ev.bind S (Ev.bind (rat_den.ev hb.ws (by omega)) ?_)))
 rw [← hs]
 exact Ev.bind (whole_Make.ev I (by omega)) (Ev.bind M (Ev.now _))
set_option synthInstance.checkSynthOrder false in
open Lin in
set_option maxHeartbeats 4000000 in
instance rat_Div.t {k : Nat} {a0_0 : Bool} {l0_1 : List Int} {l0_2 : List Int} {a1_0 : Bool} {l1_1 : List Int} {l1_2 : List Int} {r : Bool × List Int × List Int × Int} [h : Ans (rat_Div.f k a0_0 l0_1 l0_2 a1_0 l1_1 l1_2) r] : Tl Try.prog 12 [.agg [.val (.bool a0_0), .row l0_1, .row l0_2], .agg [.val (.bool a1_0), .row l1_1, .row l1_2]] (.tup [.agg [.val (.bool r.1), .row r.2.1, .row r.2.2.1], .one (.val (.int .i64 r.2.2.2))]) := by
 have h := h.out
 unfold rat_Div.f at h
 repeat' (first | (replace h := Lin.bndK h) | (replace h := Lin.bnd h; obtain ⟨_, _, h⟩ := h) | split at h | cases h)
 all_goals exact ⟨Tells.go Try.func12 Try.ntmps12⟩
def rat_Int.f (k : Nat) (a0 : Int) : Option (Bool × List Int × List Int) := (whole_Of.f k a0).bind fun bt505 => ((nat_Of.f k 1).bind fun t509 => ((rat_Make.f k bt505.1 bt505.2 t509).bind fun bt512 => (some (bt512.1, bt512.2.1, bt512.2.2))))
theorem rat_Int.ev (n : Int) (h0 : -9223372036854775808 ≤ n) (h1 : n < 9223372036854775808) : Ev (fun k => rat_Int.f k n) (Qn.qd (n : Rat)) := by
 have M := rat_Make.ev (Zn.Is.zd (z := n) (K := 2) (by omega)) (Num.Ws_nd 1) (Num.nd_length_le (n := 1) (k := 2) (by decide)) (by omega) (by omega)
 rw [Num.nv_nd, Qn.dn_self (by decide), Qn.mk_one] at M
 unfold rat_Int.f
 exact Ev.bind (whole_Of.ev n h0 h1) (Ev.bind (nat_Of.ev 1 (by omega)) (Ev.bind M (Ev.now _)))
set_option synthInstance.checkSynthOrder false in
open Lin in
set_option maxHeartbeats 4000000 in
instance rat_Int.t {k : Nat} {a0 : Int} {r : Bool × List Int × List Int} [h : Ans (rat_Int.f k a0) r] : Tl Try.prog 25 [.one (.val (.int .i64 a0))] (.el (.agg [.val (.bool r.1), .row r.2.1, .row r.2.2])) := by
 have h := h.out
 unfold rat_Int.f at h
 repeat' (first | (replace h := Lin.bndK h) | (replace h := Lin.bnd h; obtain ⟨_, _, h⟩ := h) | split at h | cases h)
 all_goals exact ⟨Tells.go Try.func25 Try.ntmps25⟩
def rat_Of.f (k : Nat) (a0 : Int) (a1 : Int) : Option (Bool × List Int × List Int × Int) := (rat_Int.f k a0).bind fun bt520 => ((rat_Int.f k a1).bind fun bt527 => ((rat_Div.f k bt520.1 bt520.2.1 bt520.2.2 bt527.1 bt527.2.1 bt527.2.2).bind fun bt534 => (some (bt534.1, bt534.2.1, bt534.2.2.1, bt534.2.2.2))))
theorem rat_Of.sm {n : Int} (h0 : -9223372036854775808 ≤ n) (h1 : n < 9223372036854775808) : Qn.Sm (n : Rat) 2 := Qn.Sm.int (by omega) (by omega)
theorem rat_Of.ev0 {n : Int} (h0 : -9223372036854775808 ≤ n) (h1 : n < 9223372036854775808) : Ev (fun k => rat_Of.f k n 0) (false, [], [], 5) := by
 unfold rat_Of.f
 exact Ev.bind (rat_Int.ev n h0 h1) (Ev.bind (rat_Int.ev 0 (by omega) (by omega)) (Ev.bind (rat_Div.ev0 (Qn.Is.qd (rat_Of.sm (n := 0) (by omega) (by omega))) (by omega) rfl) (Ev.now _)))
theorem rat_Of.ev {n d : Int} (h0 : -9223372036854775808 ≤ n) (h1 : n < 9223372036854775808) (k0 : -9223372036854775808 ≤ d) (k1 : d < 9223372036854775808) (hd : d ≠ 0) :
  Ev (fun k => rat_Of.f k n d) ((Qn.qd ((n : Rat) / (d : Rat))).1, (Qn.qd ((n : Rat) / (d : Rat))).2.1, (Qn.qd ((n : Rat) / (d : Rat))).2.2, 0) := by
 unfold rat_Of.f
 exact Ev.bind (rat_Int.ev n h0 h1) (Ev.bind (rat_Int.ev d k0 k1) (Ev.bind (rat_Div.ev (Qn.Is.qd (rat_Of.sm h0 h1)) (Qn.Is.qd (rat_Of.sm k0 k1)) (by omega) (by omega) (by omega) (fun e => hd (Rat.intCast_eq_zero_iff.1 e))) (Ev.now _)))
set_option synthInstance.checkSynthOrder false in
open Lin in
set_option maxHeartbeats 4000000 in
instance rat_Of.t {k : Nat} {a0 : Int} {a1 : Int} {r : Bool × List Int × List Int × Int} [h : Ans (rat_Of.f k a0 a1) r] : Tl Try.prog 24 [.one (.val (.int .i64 a0)), .one (.val (.int .i64 a1))] (.tup [.agg [.val (.bool r.1), .row r.2.1, .row r.2.2.1], .one (.val (.int .i64 r.2.2.2))]) := by
 have h := h.out
 unfold rat_Of.f at h
 repeat' (first | (replace h := Lin.bndK h) | (replace h := Lin.bnd h; obtain ⟨_, _, h⟩ := h) | split at h | cases h)
 all_goals exact ⟨Tells.go Try.func24 Try.ntmps24⟩
def offcutlaw03_awake.f (k : Nat)  : Option (Bool) := (rat_Of.f k 6 (-4)).bind fun bt579 => ((rat_Text.f k bt579.1 bt579.2.1 bt579.2.2.1).bind fun t588 => (if t588.toList = ([45, 51, 47, 50] : List UInt8) then (if bt579.2.2.2 = 0 then ((rat_Floor.f k bt579.1 bt579.2.1 bt579.2.2.1).bind fun bt589 => ((whole_Text.f k bt589.1 bt589.2).bind fun t593 => (if t593.toList = ([45, 50] : List UInt8) then ((rat_Ceil.f k bt579.1 bt579.2.1 bt579.2.2.1).bind fun bt594 => ((whole_Text.f k bt594.1 bt594.2).bind fun t598 => (if t598.toList = ([45, 49] : List UInt8) then ((rat_Right.f k bt579.1 bt579.2.1 bt579.2.2.1).bind fun t599 => (some t599)) else (some false)))) else (some false)))) else (some false)) else (some false)))
theorem offcutlaw03_awake.ev : Ev (fun k => offcutlaw03_awake.f k) true := by
 have O := rat_Of.ev (n := 6) (d := -4) (by omega) (by omega) (by omega) (by omega) (by omega)
 obtain ⟨r, hr⟩ : ∃ r : Rat, r = ((6 : Int) : Rat) / ((-4 : Int) : Rat) := ⟨_, rfl⟩
 rw [← hr] at O
 have er : r = mkRat (-3) 2 := by
  rw [hr, ← Rat.divInt_eq_div, show (-4 : Int) = -(((4 : Nat) : Int)) from rfl, Rat.divInt_neg', Rat.divInt_ofNat]
  exact (Rat.mkRat_eq_iff (by decide) (by decide)).2 (by decide)
 have en : r.num = -3 := by rw [er]; rfl
 have ed : r.den = 2 := by rw [er]; rfl
 have S : Qn.Sm r 1 := ⟨by rw [en]; decide, by rw [ed]; decide⟩
 have I := Qn.Is.qd S
 have T := rat_Text.ev I (by omega) (by omega)
 have F := rat_Floor.ev I (by omega) (by omega)
 have C := rat_Ceil.ev I (by omega) (by omega)
 have R := rat_Right.qd S (by omega)
 have fl : r.floor = -2 := by rw [er]; rfl
 have ce : r.ceil = -1 := by rw [er]; rfl
 rw [fl] at F
 rw [ce] at C
 have b2 : (-2 : Int).natAbs < 2 ^ (32 * 1) := by decide
 have b1 : (-1 : Int).natAbs < 2 ^ (32 * 1) := by decide
 have T2 := whole_Text.ev (Zn.Is.zd b2) (by omega)
 have T1 := whole_Text.ev (Zn.Is.zd b1) (by omega)
 have dig : ∀ d : Nat, d ≠ 0 → d < 10 → Dec.dec d = Dec.tx [d] := by
  intro d h0 h
  have e1 := Dec.dc_snoc Dec.Ds.nil h h0
  have e : Dec.dv ([] ++ [d]) = d := by simp [Dec.dv]
  rw [e] at e1
  unfold Dec.dec
  rw [e1]
  rfl
 have bts : ∀ t : ByteArray, t.toList = t.data.toList := fun t => by
  have := ByteArray.toList_mk t.data.toList
  rwa [Array.toArray_toList] at this
 have t2 : (Zn.tz (-2)).toList = ([45, 50] : List UInt8) := by
  rw [Zn.tz_neg (by omega), Zn.minus_toList, show (-2 : Int).natAbs = 2 from rfl, dig 2 (by omega) (by omega)]
  exact congrArg (List.cons 45) (ByteArray.toList_mk [50])
 have t1 : (Zn.tz (-1)).toList = ([45, 49] : List UInt8) := by
  rw [Zn.tz_neg (by omega), Zn.minus_toList, show (-1 : Int).natAbs = 1 from rfl, dig 1 (by omega) (by omega)]
  exact congrArg (List.cons 45) (ByteArray.toList_mk [49])
 have tt : (rat_Text.tq r).toList = ([45, 51, 47, 50] : List UInt8) := by
  unfold rat_Text.tq
  rw [if_neg (by omega), en, ed, Zn.tz_neg (by omega), show (-3 : Int).natAbs = 3 from rfl, dig 3 (by omega) (by omega), dig 2 (by omega) (by omega)]
  rw [bts, ByteArray.data_append, ByteArray.data_append, ByteArray.data_append, Array.toList_append, Array.toList_append, Array.toList_append]
  rfl
 unfold offcutlaw03_awake.f
 exact Ev.bind O (Ev.bind T (Dec.yes tt (Dec.yes rfl (Ev.bind F (Ev.bind T2 (Dec.yes t2 (Ev.bind C (Ev.bind T1 (Dec.yes t1 (Ev.bind R (Ev.now _)))))))))))
set_option synthInstance.checkSynthOrder false in
open Lin in
set_option maxHeartbeats 4000000 in
instance offcutlaw03_awake.t {k : Nat} [h : Ans (offcutlaw03_awake.f k) true] : Tl Try.prog 11 [] (.el (.one (.val (.bool true)))) := by
 have h := h.out
 unfold offcutlaw03_awake.f at h
 repeat' (first | (replace h := Lin.bndK h) | (replace h := Lin.bnd h; obtain ⟨_, _, h⟩ := h) | split at h | cases h)
 all_goals exact ⟨Tells.go Try.func11 Try.ntmps11⟩
def offcutref03_Text.f (a0_0 : ByteArray) (a0_1 : ByteArray) : Option (ByteArray) := if a0_1.toList = ([49] : List UInt8) then (some a0_0) else (if a0_0.size + 1 ≤ 9223372036854775807 then (if (a0_0 ++ (⟨#[47]⟩ : ByteArray)).size + a0_1.size ≤ 9223372036854775807 then (some ((a0_0 ++ (⟨#[47]⟩ : ByteArray)) ++ a0_1)) else (none)) else (none))
set_option synthInstance.checkSynthOrder false in
open Lin in
set_option maxHeartbeats 4000000 in
instance offcutref03_Text.t {a0_0 : ByteArray} {a0_1 : ByteArray} {r : ByteArray} [h : Ans (offcutref03_Text.f a0_0 a0_1) r] : Tl Try.prog 40 [.agg [.val (.string a0_0), .val (.string a0_1)]] (.el (.one (.val (.string r)))) := by
 have h := h.out
 unfold offcutref03_Text.f at h
 repeat' (first | (replace h := Lin.bndK h) | (replace h := Lin.bnd h; obtain ⟨_, _, h⟩ := h) | split at h | cases h)
 all_goals exact ⟨Tells.go Try.func40 Try.ntmps40⟩
section
open Lin
theorem awake3_t : Tl Try.prog 11 [] (.el (.one (.val (.bool true)))) := by
  obtain ⟨k, h⟩ := offcutlaw03_awake.ev.rounds
  have A : Ans (offcutlaw03_awake.f k) true := ⟨h⟩
  exact inferInstance
theorem few3_yes {m : Bool} {l1 l2 : List Int} (h1 : l1.length ≤ 4) (h2 : l2.length ≤ 4) : Tl Try.prog 10 [.agg [.val (.bool m), .row l1, .row l2]] (.el (.one (.val (.bool true)))) := by
  have A : Ans (offcutlaw03_few.f m l1 l2) true := ⟨by unfold offcutlaw03_few.f; rw [if_pos (by omega), decide_eq_true (by omega)]⟩
  exact inferInstance
theorem few3_no {m : Bool} {l1 l2 : List Int} (h : ¬ (l1.length ≤ 4 ∧ l2.length ≤ 4)) : Tl Try.prog 10 [.agg [.val (.bool m), .row l1, .row l2]] (.el (.one (.val (.bool false)))) := by
  have A : Ans (offcutlaw03_few.f m l1 l2) false := ⟨by
    unfold offcutlaw03_few.f
    by_cases h1 : l1.length ≤ 4
    · rw [if_pos (by omega), decide_eq_false (by omega)]
    · rw [if_neg (by omega)]⟩
  exact inferInstance
theorem sign3_t : Tl Try.prog 14 [.agg [.val (.bool false), .row [], .row []]] (.el (.one (.val (.int .i64 0)))) := by
  have h : Qn.Is false [] [] (mkRat (Zn.zv false (Num.nv [])) (Qn.dn (Num.nv []))) 1 := Qn.Is.of (fun _ h => by cases h) (fun _ h => by cases h) (by decide) (by decide)
  obtain ⟨k, e⟩ := (rat_Sign.ev h (by decide)).rounds
  have A : Ans (rat_Sign.f k false [] []) 0 := ⟨by rw [e]; rfl⟩
  exact inferInstance
set_option maxHeartbeats 8000000 in
theorem texts_t {m : Bool} {l1 l2 : List Int} {s a b t : ByteArray} {o : ByteArray × ByteArray} {q : Bool × List Int × List Int} {m2 : Bool} {x1 x2 : List Int} {e : Int} {k k2 k3 : Nat} (f1 : Tl Try.prog 10 [.agg [.val (.bool m), .row l1, .row l2]] (.el (.one (.val (.bool true)))))
    (hs : decide ((s.size : Int) > 60) = false) (T : Ans (rat_Text.f k m l1 l2) t) (P1 : Tl Try.prog 39 [.one (.val (.string t))] (.tup [.agg [.val (.bool q.1), .row q.2.1, .row q.2.2], .one (.val (.int .i64 0))]))
    (O : Ans (offcutlaw03_Of.f k2 m l1 l2) o) (R : Ans (offcutref03_Text.f o.1 o.2) t) (I : Ans (offcutlaw03_Is.f k3 q.1 q.2.1 q.2.2 o.1 o.2) true) (C : Cuts s a b) (D : Outc a b m2 x1 x2 e) : Tl Try.prog 9 [.agg [.val (.bool m), .row l1, .row l2], .one (.val (.string s))] (.el (.one (.val (.bool true)))) := by
  have W := awake3_t
  have c1 : (!(t.toList == t.toList)) = false := by simp
  have hs' : s.size ≤ 60 := by have := of_decide_eq_false hs; omega
  refine ⟨Tells.body Try.func9 (by rfl) (by kernel_rfl) ?_ (by kernel_rfl)⟩
  rw [Try.ntmps9]
  repeat' (first
      | refine Run.mv ?_ | refine Run.asg ?_ | refine Run.ld3 ?_ | refine Run.call1 ?_ | refine Run.call2 ?_ | refine Run.lens ?_ | refine Run.scmp ?_ | refine Run.st ?_ | refine Run.icmp ?_ | refine Run.bx ?_ | refine Run.al ?_ | refine Run.ext ?_
      | refine Run.skp ?_ | refine Run.skp0 ?_ | refine Run.pckT ?_ | refine Run.pckF ?_ | refine Run.not ?_ | refine Run.bx1 ?_
      | refine Run.endF ?_ | refine Run.endT ?_ | refine K.thenN ?_ | refine AWp.seq ?_ | refine AWp.regF ?_ | refine AWp.regT ?_ | refine AWp.condT ?_ | refine AWp.condF ?_ | refine AWp.skip ?_ | refine AWp.block ?_)
  have S := sign3_t
  have P2 := parse_t C D
  cases C with
  | some h hs2 =>
    rename_i i0
    refine AWp.loop (X := Nat) (fun i => i ≤ i0) (fun i => ⟨137, [(1, .rs (.el (.one (.val (.string s))))), (8, .rs (.el (.one (.val (.string s))))), (9, .rs (.el (.one (.val (.string ⟨#[49]⟩))))), (51, .rs (.el (.one (.val (.int .i64 (s.size : Int)))))), (52, .rs (.el (.one (.val (.int .i64 (i : Int))))))], []⟩) (fun i => i0 - i) 0 (Nat.zero_le _) ⟨rfl, ⟨rfl, rfl, rfl, rfl, rfl, trivial⟩, trivial, rfl⟩ ?_
    intro i hi
    have hi : i ≤ i0 := hi
    have hlt := h.lt
    have d1 : decide ((i : Int) < (s.size : Int)) = true := decide_eq_true (by omega)
    have g1 : i < s.size := by omega
    have g2 : i ≤ s.size := by omega
    have g3 : i + 1 ≤ s.size := by omega
    have w1 : wrap64 ((i : Int) + 1) = Int.ofNat (i + 1) := by
      show wrap64 ((i : Int) + 1) = ((i + 1 : Nat) : Int)
      unfold wrap64
      omega
    by_cases hc : i = i0
    · subst hc
      have d2 : ((s[i]!.toNat : Int) == 47) = true := by rw [h.at_]; rfl
      repeat' (first
      | refine Run.mv ?_ | refine Run.asg ?_ | refine Run.idxs ?_ | refine Run.slH ?_ | refine Run.slL ?_ | refine Run.icmp ?_ | refine Run.iar64 ?_
      | refine Run.endF ?_ | refine Run.endT ?_ | refine K.thenN ?_ | refine K.thenX ?_ | refine K.blkY ?_ | refine AWp.seq ?_ | refine AWp.regF ?_ | refine AWp.regT ?_ | refine AWp.condT ?_ | refine AWp.condF ?_ | refine AWp.skip ?_ | refine AWp.block ?_ | refine AWp.exit ?_)
      refine K.rndX (K.blkX (K.thenN (AWp.weak (s' := ⟨137, [(1, .rs (.el (.one (.val (.string s))))), (8, .rs (.el (.one (.val (.string (s.extract 0 i)))))), (9, .rs (.el (.one (.val (.string (s.extract (i + 1) s.size))))))], []⟩) ⟨rfl, ⟨rfl, rfl, rfl, trivial⟩, trivial, rfl⟩ ?_)))
      cases D with
      | bad A B he =>
        have c2 : (e == e) = true := by simp
        exact AWp.goS
      | low A B he =>
        have c2 : (e == e) = true := by simp
        exact AWp.goS
      | zero A B C => exact AWp.goS
      | good A B C hn M O2 E => exact AWp.goS
    · have d2 : ((s[i]!.toNat : Int) == 47) = false := by
        have := h.no i (by omega)
        rw [beq_eq_false_iff_ne]
        intro e
        have e2 : s[i]!.toNat = 47 := by omega
        exact this (UInt8.toNat_inj.1 (e2.trans rfl))
      repeat' (first
      | refine Run.mv ?_ | refine Run.asg ?_ | refine Run.idxs ?_ | refine Run.icmp ?_ | refine Run.iar64 ?_
      | refine Run.endF ?_ | refine Run.endT ?_ | refine K.thenN ?_ | refine K.blkN ?_ | refine AWp.seq ?_ | refine AWp.regF ?_ | refine AWp.regT ?_ | refine AWp.condT ?_ | refine AWp.condF ?_ | refine AWp.skip ?_ | refine AWp.block ?_)
      refine K.rndN (i + 1) (by show i + 1 ≤ i0; omega) (by show i0 - (i + 1) < i0 - i; omega) ⟨rfl, ⟨rfl, rfl, rfl, rfl, ?_, trivial⟩, trivial, rfl⟩
      rw [← show wrap64 ((i : Int) + 1) = ((i + 1 : Nat) : Int) from w1]
      rfl
  | none h =>
    refine AWp.loop (X := Nat) (fun i => i ≤ s.size) (fun i => ⟨137, [(1, .rs (.el (.one (.val (.string s))))), (8, .rs (.el (.one (.val (.string s))))), (9, .rs (.el (.one (.val (.string ⟨#[49]⟩))))), (51, .rs (.el (.one (.val (.int .i64 (s.size : Int)))))), (52, .rs (.el (.one (.val (.int .i64 (i : Int))))))], []⟩) (fun i => s.size - i) 0 (Nat.zero_le _) ⟨rfl, ⟨rfl, rfl, rfl, rfl, rfl, trivial⟩, trivial, rfl⟩ ?_
    intro i hi
    have hi : i ≤ s.size := hi
    by_cases hc : i = s.size
    · have d1 : decide ((i : Int) < (s.size : Int)) = false := decide_eq_false (by omega)
      repeat' (first
      | refine Run.icmp ?_
      | refine Run.endF ?_ | refine Run.endT ?_ | refine K.thenN ?_ | refine K.thenX ?_ | refine K.blkY ?_ | refine AWp.seq ?_ | refine AWp.regF ?_ | refine AWp.regT ?_ | refine AWp.condT ?_ | refine AWp.condF ?_ | refine AWp.skip ?_ | refine AWp.block ?_ | refine AWp.exit ?_)
      refine K.rndX (K.blkX (K.thenN (AWp.weak (s' := ⟨137, [(1, .rs (.el (.one (.val (.string s))))), (8, .rs (.el (.one (.val (.string s))))), (9, .rs (.el (.one (.val (.string ⟨#[49]⟩)))))], []⟩) ⟨rfl, ⟨rfl, rfl, rfl, trivial⟩, trivial, rfl⟩ ?_)))
      cases D with
      | bad A B he =>
        have c2 : (e == e) = true := by simp
        exact AWp.goS
      | low A B he =>
        have c2 : (e == e) = true := by simp
        exact AWp.goS
      | zero A B C => exact AWp.goS
      | good A B C hn M O2 E => exact AWp.goS
    · have d1 : decide ((i : Int) < (s.size : Int)) = true := decide_eq_true (by omega)
      have g1 : i < s.size := by omega
      have w1 : wrap64 ((i : Int) + 1) = Int.ofNat (i + 1) := by
        show wrap64 ((i : Int) + 1) = ((i + 1 : Nat) : Int)
        unfold wrap64
        omega
      have d2 : ((s[i]!.toNat : Int) == 47) = false := by
        have := h i g1
        rw [beq_eq_false_iff_ne]
        intro e
        have e2 : s[i]!.toNat = 47 := by omega
        exact this (UInt8.toNat_inj.1 (e2.trans rfl))
      repeat' (first
      | refine Run.mv ?_ | refine Run.asg ?_ | refine Run.idxs ?_ | refine Run.icmp ?_ | refine Run.iar64 ?_
      | refine Run.endF ?_ | refine Run.endT ?_ | refine K.thenN ?_ | refine K.blkN ?_ | refine AWp.seq ?_ | refine AWp.regF ?_ | refine AWp.regT ?_ | refine AWp.condT ?_ | refine AWp.condF ?_ | refine AWp.skip ?_ | refine AWp.block ?_)
      refine K.rndN (i + 1) (by show i + 1 ≤ s.size; omega) (by show s.size - (i + 1) < s.size - i; omega) ⟨rfl, ⟨rfl, rfl, rfl, rfl, ?_, trivial⟩, trivial, rfl⟩
      rw [← show wrap64 ((i : Int) + 1) = ((i + 1 : Nat) : Int) from w1]
      rfl
end
section
open Lin
theorem ws_of3 {l : List Int} (h : ∀ x ∈ l, (Lit.int .u32 x).wf = true) : Num.Ws l := fun x hx => by
  have a : IntKind.u32.min = 0 := by decide
  have b : IntKind.u32.max = 4294967295 := by decide
  have := h x hx
  simp [Lit.wf, a, b] at this
  omega
set_option maxHeartbeats 4000000 in
theorem cuts_any {s : ByteArray} (hs : s.size ≤ 500) : ∃ a b, Cuts s a b ∧ a.size ≤ 500 ∧ b.size ≤ 500 := by
  rcases first_or s with ⟨i, h⟩ | h
  · exact ⟨_, _, .some h (by omega), by rw [ByteArray.size_extract]; omega, by rw [ByteArray.size_extract]; omega⟩
  · exact ⟨_, _, .none h, hs, by decide⟩
/-- What a text of a whole number tells. -/
inductive Wp (a : ByteArray) : Prop
  | good {k J : Nat} {m : Bool} {l : List Int} {p : Int} (A : Ans (whole_Parse.f k a) (m, l, 0)) (h : Zn.Is m l p J) (hJ : J ≤ 500) : Wp a
  | bad {k : Nat} {m : Bool} {l : List Int} {e : Int} (A : Ans (whole_Parse.f k a) (m, l, e)) (he : (e != 0) = true) : Wp a
theorem wp_any {a : ByteArray} (ha : a.size ≤ 500) : Wp a := by
  obtain ⟨s', m, hc, hs⟩ : ∃ s' m, (if 0 < a.size ∧ bt a 0 = 45 then (a.extract 1 a.size, true) else (a, false)) = (s', m) ∧ s'.size ≤ 500 := by
    split
    · exact ⟨_, _, rfl, by rw [ByteArray.size_extract]; omega⟩
    · exact ⟨_, _, rfl, ha⟩
  rcases whole_Parse.any_ hs with ⟨n, J, hJ, hn, P⟩ | ⟨l, e, he, P⟩
  · obtain ⟨k, h⟩ := (whole_Parse.ev0 hc hn (by omega) P).rounds
    exact .good ⟨h⟩ (Zn.Is.zd (z := Zn.zv m n) (by rw [Zn.natAbs_zv]; exact hn)) hJ
  · obtain ⟨k, h⟩ := (whole_Parse.ev1 hc he P).rounds
    exact .bad ⟨h⟩ (by simpa using he)
theorem bits_any {n J : Nat} (hn : n < 2 ^ (32 * J)) (hJ : J ≤ 500) : ∃ k, Ans (nat_Bits.f k (Num.nd n)) ((Num.blen n : Nat) : Int) := by
  have h := nat_Bits.ev (Num.Ws_nd n) (by have := Num.nd_length_le hn; omega)
  rw [Num.nv_nd] at h
  obtain ⟨k, h⟩ := h.rounds
  exact ⟨k, ⟨h⟩⟩
theorem outc_good {a b : ByteArray} {k J n J2 : Nat} {m : Bool} {l : List Int} {p : Int} (A : Ans (whole_Parse.f k a) (m, l, 0)) (h : Zn.Is m l p J) (hJ : J ≤ 500) (hn : n < 2 ^ (32 * J2)) (hJ2 : J2 ≤ 500) (h0 : n ≠ 0) (P : Ev (fun k => nat_Parse.f k b) (Num.nd n, 0)) :
    Outc a b (Qn.qd (mkRat p n)).1 (Qn.qd (mkRat p n)).2.1 (Qn.qd (mkRat p n)).2.2 0 := by
  obtain ⟨k2, B⟩ := P.rounds
  obtain ⟨k3, C⟩ := bits_any hn hJ2
  have hl : (Num.nd n).length ≤ 501 := by have := Num.nd_length_le hn; omega
  have h' := h.le (J := 501) (by omega)
  have M := rat_Make.ev h' (Num.Ws_nd n) hl (by omega) (by omega)
  rw [Num.nv_nd, Qn.dn_self h0] at M
  obtain ⟨k4, M⟩ := M.rounds
  have Q : Qn.Is m l (Num.nd n) (mkRat p n) 501 := ⟨by rw [h'.val]; exact h', Num.Ws_nd n, hl, by rw [h'.val, Num.nv_nd, Qn.dn_self h0]⟩
  obtain ⟨k5, O⟩ := (offcutlaw03_Of.ev Q (by omega) (by omega)).rounds
  have I := offcutlaw03_Is.ev (s := mkRat p n) (Q.sm (by omega)) (by omega) (by omega)
  rw [decide_eq_true rfl] at I
  obtain ⟨k6, I⟩ := I.rounds
  exact .good A ⟨B⟩ C (by
    rw [beq_eq_false_iff_ne]
    have := Num.blen_pos h0
    omega) ⟨M⟩ ⟨O⟩ ⟨I⟩
theorem outc_any {a b : ByteArray} (ha : a.size ≤ 500) (hb : b.size ≤ 500) : ∃ m x1 x2 e, Outc a b m x1 x2 e := by
  rcases whole_Parse.any_ hb with ⟨n, J2, hJ2, hn, P⟩ | ⟨l2, e2, he2, P⟩
  · cases wp_any ha with
    | bad A he =>
      obtain ⟨k2, B⟩ := P.rounds
      exact ⟨_, _, _, _, .bad A ⟨B⟩ he⟩
    | good A h hJ =>
      by_cases h0 : n = 0
      · obtain ⟨k2, B⟩ := P.rounds
        obtain ⟨k3, C⟩ := bits_any hn hJ2
        have C' : Ans (nat_Bits.f k3 (Num.nd n)) 0 := ⟨by rw [C.out, h0, Num.blen_zero]; rfl⟩
        exact ⟨_, _, _, _, .zero A ⟨B⟩ C'⟩
      · exact ⟨_, _, _, _, outc_good A h hJ hn hJ2 h0 P⟩
  · obtain ⟨k2, B⟩ := P.rounds
    cases wp_any ha with
    | bad A he => exact ⟨_, _, _, _, .bad A ⟨B⟩ he⟩
    | good A h hJ => exact ⟨_, _, _, _, .low A ⟨B⟩ (by simpa using he2)⟩
/-! A fraction's own text -/
theorem lst {s : ByteArray} {j : Nat} (h : j < s.size) : s.data.toList[j]? = some s[j]! := by
  rw [getElem!_pos s j h, ByteArray.getElem_eq_getElem_data, Array.getElem?_toList]
  exact Array.getElem?_eq_getElem h
theorem no_dash {s : ByteArray} (h : ∀ b ∈ s.data.toList, b ≠ 47) : ∀ j, j < s.size → s[j]! ≠ 47 := fun j hj => h _ (List.mem_of_getElem? (lst hj))
theorem dec_no (n : Nat) : ∀ b ∈ (Dec.dec n).data.toList, b ≠ 47 := by
  intro b hb e
  have hb : b ∈ (Dec.dc n).reverse.map Dec.ch := hb
  obtain ⟨d, hd, rfl⟩ := List.mem_map.1 hb
  have h1 := Dec.ch_nat (Dec.Ds_dc n d (List.mem_reverse.1 hd))
  rw [e] at h1
  have h2 : (47 : UInt8).toNat = 47 := rfl
  omega
theorem tz_no (z : Int) : ∀ b ∈ (Zn.tz z).data.toList, b ≠ 47 := by
  by_cases h : z < 0
  · rw [Zn.tz_neg h, ByteArray.data_append, Array.toList_append]
    intro b hb
    rcases List.mem_append.1 hb with hb | hb
    · have hb : b ∈ [(45 : UInt8)] := hb
      rw [List.mem_singleton.1 hb]
      decide
    · exact dec_no _ b hb
  · rw [Zn.tz_pos h]
    exact dec_no _
theorem tq_cuts {r : Rat} {K : Nat} (h : Qn.Sm r K) (hK1 : 1 ≤ K) (hK : K ≤ 40) : Cuts (rat_Text.tq r) (Zn.tz r.num) (Dec.dec r.den) := by
  have s1 := Zn.tz_size_le hK1 h.num
  have s2 := Dec.dc_len32 hK1 h.den
  have s3 := Zn.dec_size r.den
  have s4 : (⟨#[47]⟩ : ByteArray).size = 1 := rfl
  unfold rat_Text.tq
  by_cases hd : r.den = 1
  · rw [if_pos hd, hd, Dec.dec_one]
    exact .none (no_dash (tz_no _))
  · rw [if_neg hd]
    obtain ⟨A, hA⟩ : ∃ A, A = Zn.tz r.num := ⟨_, rfl⟩
    obtain ⟨D, hD⟩ : ∃ D, D = Dec.dec r.den := ⟨_, rfl⟩
    have nA := tz_no r.num
    rw [← hA] at nA s1 ⊢
    rw [← hD] at s3 ⊢
    have hsz : (A ++ (⟨#[47]⟩ : ByteArray) ++ D).size = A.size + 1 + D.size := by rw [ByteArray.size_append, ByteArray.size_append, s4]
    have hl : (A ++ (⟨#[47]⟩ : ByteArray) ++ D).data.toList = A.data.toList ++ ([47] ++ D.data.toList) := by
      rw [ByteArray.data_append, ByteArray.data_append, Array.toList_append, Array.toList_append, List.append_assoc]
    have hal : A.data.toList.length = A.size := by rw [Array.length_toList, ByteArray.size_data]
    have F : First (A ++ (⟨#[47]⟩ : ByteArray) ++ D) A.size := by
      refine ⟨by omega, ?_, fun j hj => ?_⟩
      · have h1 := lst (s := A ++ (⟨#[47]⟩ : ByteArray) ++ D) (j := A.size) (by omega)
        rw [hl, List.getElem?_append_right (by omega), hal, Nat.sub_self] at h1
        exact (Option.some.inj h1).symm
      · have h1 := lst (s := A ++ (⟨#[47]⟩ : ByteArray) ++ D) (j := j) (by omega)
        rw [hl, List.getElem?_append_left (by omega)] at h1
        exact nA _ (List.mem_of_getElem? h1)
    have C := Cuts.some F (by omega)
    have e1 : (A ++ (⟨#[47]⟩ : ByteArray) ++ D).extract 0 A.size = A := by
      rw [ByteArray.append_assoc]
      exact ByteArray.extract_append_eq_left rfl
    have e2 : (A ++ (⟨#[47]⟩ : ByteArray) ++ D).extract (A.size + 1) (A ++ (⟨#[47]⟩ : ByteArray) ++ D).size = D := ByteArray.extract_append_eq_right (by rw [ByteArray.size_append, s4]) (by rw [hsz, ByteArray.size_append, s4])
    rwa [e1, e2] at C
theorem tq_parse {r : Rat} {K : Nat} (h : Qn.Sm r K) (hK1 : 1 ≤ K) (hK : K ≤ 40) : Outc (Zn.tz r.num) (Dec.dec r.den) (Qn.qd r).1 (Qn.qd r).2.1 (Qn.qd r).2.2 0 := by
  obtain ⟨k, A⟩ := (whole_Parse.ev_tz h.num hK1 hK).rounds
  have la := Dec.dc_len32 hK1 h.den
  have p0 := Dec.dc_pos r.den
  have P0 := nat_Parse.ev_dig (Dec.Ds_dc r.den) (by omega)
  rw [if_neg (by omega), if_neg (by omega), Dec.dv_dc] at P0
  have := outc_good (k := k) ⟨A⟩ (Zn.Is.zd h.num) (by omega) h.den (by omega) r.den_nz P0
  rwa [Rat.mkRat_self] at this
theorem RatTexts_t {m : Bool} {l1 l2 : List Int} (v1 : Num.Ws l1) (v2 : Num.Ws l2) (s : ByteArray) : Tl Try.prog 9 [.agg [.val (.bool m), .row l1, .row l2], .one (.val (.string s))] (.el (.one (.val (.bool true)))) := by
  have W := awake3_t
  by_cases f1 : l1.length ≤ 4 ∧ l2.length ≤ 4
  · have F1 := few3_yes (m := m) f1.1 f1.2
    by_cases hs : s.size ≤ 60
    · have c1 : decide ((s.size : Int) > 60) = false := decide_eq_false (by omega)
      obtain ⟨a, b, C, ha, hb⟩ := cuts_any (s := s) (by omega)
      obtain ⟨m2, x1, x2, e, D⟩ := outc_any ha hb
      have I := Qn.Is.of (m := m) v1 v2 f1.1 f1.2
      obtain ⟨r, hr⟩ : ∃ r, r = mkRat (Zn.zv m (Num.nv l1)) (Qn.dn (Num.nv l2)) := ⟨_, rfl⟩
      rw [← hr] at I
      have S := I.sm (by omega)
      have P1 := parse_t (tq_cuts S (by omega) (by omega)) (tq_parse S (by omega) (by omega))
      obtain ⟨k1, T⟩ := (rat_Text.ev I (by omega) (by omega)).rounds
      obtain ⟨k2, O⟩ := (offcutlaw03_Of.ev I (by omega) (by omega)).rounds
      have E := offcutlaw03_Is.ev (s := r) S (by omega) (by omega)
      rw [decide_eq_true rfl] at E
      obtain ⟨k3, E⟩ := E.rounds
      have R : Ans (offcutref03_Text.f (Zn.tz r.num) (Dec.dec r.den)) (rat_Text.tq r) := by
        have s1 := Zn.tz_size_le (by omega) S.num
        have s2 := Dec.dc_len32 (by omega) S.den
        have s3 := Zn.dec_size r.den
        have s4 : (⟨#[47]⟩ : ByteArray).size = 1 := rfl
        constructor
        unfold offcutref03_Text.f rat_Text.tq
        by_cases hd : r.den = 1
        · rw [if_pos hd, hd, Dec.dec_one, if_pos (ByteArray.toList_mk [49])]
        · rw [if_neg hd, if_neg (fun e => hd ?_), if_pos (by omega), if_pos (by rw [ByteArray.size_append]; omega)]
          have : (Dec.dec r.den).toList = (Dec.dec 1).toList := by rw [e, Dec.dec_one]; exact (ByteArray.toList_mk [49]).symm
          exact Dec.dec_inj.1 this
      exact texts_t F1 c1 ⟨T⟩ P1 ⟨O⟩ R ⟨E⟩ C D
    · have c1 : decide ((s.size : Int) > 60) = true := decide_eq_true (by omega)
      exact ⟨Tells.goS Try.func9 Try.ntmps9⟩
  · have F1 := few3_no (m := m) f1
    exact ⟨Tells.goS Try.func9 Try.ntmps9⟩
theorem offcutlaw03_RatTexts.calls (b0 : Bool) (A0n : Option Addr) (c0n : Nat) (l0n : List Int) (A0d : Option Addr) (c0d : Nat) (l0d : List Int) (s1 : ByteArray) (w : World) (hr0n : Kd.C (Kd.int .u32) w A0n l0n.length l0n) (hc0n : l0n.length ≤ c0n) (hr0d : Kd.C (Kd.int .u32) w A0d l0d.length l0d) (hc0d : l0d.length ≤ c0d) (hw0n : ∀ x ∈ l0n, (Lit.int .u32 x).wf = true) (hw0d : ∀ x ∈ l0d, (Lit.int .u32 x).wf = true) : Calls Try.prog 9 #[.agg #[.bool b0, .slice A0n l0n.length c0n, .slice A0d l0d.length c0d], .string s1] w fun e w' => e = .returned (.bool true) ∧ Below w.heap.size w w' := law_calls (vs := [.agg #[.bool b0, .slice A0n l0n.length c0n, .slice A0d l0d.length c0d], .string s1]) (ds := [.agg [.val (.bool b0), .row l0n, .row l0d], .one (.val (.string s1))]) Try.func9 (RatTexts_t (ws_of3 hw0n) (ws_of3 hw0d) s1) rfl (args_cons ⟨[_, _, _], rfl, SeesL.cons ⟨rfl, rfl⟩ (SeesL.cons ⟨_, _, rfl, hc0n, hr0n, fun _ _ _ h => h⟩ (SeesL.cons ⟨_, _, rfl, hc0d, hr0d, fun _ _ _ h => h⟩ SeesL.nil))⟩ (args_cons ⟨rfl, rfl⟩ args_mk0))
end
end Go.Proofs.Ytcdkopidgibijaa.PR
