/- Several functions' printed texts in one file. -/
import Derived.Test.YtcdkopidgibijaaShort
import Derived.Test.YtcdkopidgibijaaNum
import Derived.Test.YtcdkopidgibijaaPRg0
import Derived.Test.YtcdkopidgibijaaPRg15
import Derived.Test.YtcdkopidgibijaaPRg21
import Derived.Test.YtcdkopidgibijaaPRx31
import Derived.Test.YtcdkopidgibijaaRat
import Derived.Test.YtcdkopidgibijaaDec
import Derived.Test.YtcdkopidgibijaaInt
namespace Go.Proofs.Ytcdkopidgibijaa.PR
open Go.RowKit Go.Proofs.YtcdkopidgibijaaW.PrintWords Go.Proofs.YtcdkopidgibijaaW.PrintLast Go.Proofs.YtcdkopidgibijaaW.PrintMore
attribute [local go_sem] max2_int min2_int max_two min_two max_three min_three max_four min_four   -- for this text's walks alone
set_option linter.unusedVariables false
set_option linter.unusedSimpArgs false
/-! ### nat_Gcd: function 69 -/
def nat_Gcd.l0 : Nat → List Int → List Int → Option (List Int)
 | 0, _, _ => none
 | k + 1, x0, x1 => if (x1.length : Int) > 0 then ((nat_DivMod.f k x0 x1).bind fun bt396 => (nat_Gcd.l0 k x1 bt396.2.1)) else (some x0)
def nat_Gcd.f (k : Nat) (l0 : List Int) (l1 : List Int) : Option (List Int) := (nat_trim.f k l0).bind fun t390 => ((nat_trim.f k l1).bind fun t393 => (nat_Gcd.l0 k t390 t393))
set_option maxHeartbeats 8000000 in
set_option maxRecDepth 100000 in
theorem nat_Gcd.calls (k : Nat) (A0 : Option Addr) (c0 : Nat) (l0 : List Int) (A1 : Option Addr) (c1 : Nat) (l1 : List Int) (r : List Int) (w : World) (hr0 : Kd.C (Kd.int .u32) w A0 l0.length l0) (hc0 : l0.length ≤ c0) (hr1 : Kd.C (Kd.int .u32) w A1 l1.length l1) (hc1 : l1.length ≤ c1) (h : nat_Gcd.f k l0 l1 = some r) :
  Calls Try.prog 69 #[.slice A0 l0.length c0, .slice A1 l1.length c1] w fun e w' => ∃ v0_ : Value, e = .returned (v0_) ∧ Kd.V (Kd.int .u32) 89 w' w.heap.size (fun k_ => (w.heap.size ≤ k_)) v0_ r ∧ Below w.heap.size w w' := by
 have HR0 := Aside0.mk hr0
 have HC0 := Aside0.mk hc0
 clear hr0 hc0
 have HR1 := Aside0.mk hr1
 have HC1 := Aside0.mk hc1
 clear hr1 hc1
 have HB := Aside0.mk (Below.refl w.heap.size w)
 have H : ((nat_trim.f k l0).bind fun t390 => ((nat_trim.f k l1).bind fun t393 => (nat_Gcd.l0 k t390 t393))) = some r := h
 clear h
 replace H := Option.bind_eq_some_iff.mp H
 obtain ⟨t390, A30, H⟩ := H
 try dsimp only at H
 have A3 := Aside0.mk A30
 clear A30
 replace H := Option.bind_eq_some_iff.mp H
 obtain ⟨t393, A40, H⟩ := H
 replace H : (nat_Gcd.l0 k t390 t393) = some r := H
 have A4 := Aside0.mk A40
 clear A40
 have H' := Aside0.mk H
 clear H
 go_enter Try.func69, Try.ntmps69
 go_wp2_with (first | ((with_reducible refine gate_callee (f := 71) rfl ?_); refine Short.goesS_ (some 9) Try.func71 #[.slice A0 l0.length c0] ?_; (with_reducible refine (nat_trim.calls k _ _ l0 t390 _ HR0.out HC0.out A3.out).mono ?_); rintro e w5 ⟨v391, rfl, ho0, hb⟩; refine ⟨_, rfl, ?_⟩; have HO392 := Aside0.mk (Kd.R_lower (Kd.R_newM (M := fun k_ => (w.heap.size ≤ k_)) ho0 (below_size (by repeat (first | (with_reducible first | exact HB.out | apply below_alloc | apply pw_below_drewN | apply below_drew1) | exact HB.out))) (fun k_ h_ => h_)) (below_size (by repeat (first | (with_reducible first | exact HB.out | apply below_alloc | apply pw_below_drewN | apply below_drew1) | exact HB.out)))); replace HB := Aside0.mk (below_step (by repeat (first | (with_reducible first | exact HB.out | apply below_alloc | apply pw_below_drewN | apply below_drew1) | exact HB.out)) hb); (try clear hb); (try clear ho0)) | ((with_reducible refine gate_callee (f := 71) rfl ?_); refine Short.goesS_ (some 11) Try.func71 #[.slice A1 l1.length c1] ?_; (with_reducible refine (nat_trim.calls k _ _ l1 t393 _ (Kd.C_below HR1.out HB.out) HC1.out A4.out).mono ?_); rintro e w6 ⟨v394, rfl, ho0, hb⟩; refine ⟨_, rfl, ?_⟩; have HO395 := Aside0.mk (Kd.R_lower (Kd.R_new' (Kd.R_newM (M := fun k_ => (w.heap.size ≤ k_)) ho0 (below_size (by repeat (first | (with_reducible first | exact HB.out | apply below_alloc | apply pw_below_drewN | apply below_drew1) | exact HB.out))) (fun k_ h_ => h_)) (Kd.R_lt HO392.out)) (below_size (by repeat (first | (with_reducible first | exact HB.out | apply below_alloc | apply pw_below_drewN | apply below_drew1) | exact HB.out)))); replace HO392 := Aside0.mk (Kd.R_elder' HO392.out (Kd.R_base ho0) hb); replace HB := Aside0.mk (below_step (by repeat (first | (with_reducible first | exact HB.out | apply below_alloc | apply pw_below_drewN | apply below_drew1) | exact HB.out)) hb); (try clear hb); (try clear ho0)))
 go_loopg [0, 1] k (fun kq v0 v1 w' => ∃ (x0_1 : List Int) (x1_1 : List Int), Aside0 (nat_Gcd.l0 kq x0_1 x1_1 = some r) ∧ Aside0 (kq ≤ k) ∧ Aside0 (Kd.V (Kd.int .u32) 89 w' w.heap.size (fun k_ => (w.heap.size ≤ k_)) v0 x0_1) ∧ Aside0 (Kd.V (Kd.int .u32) 89 w' w.heap.size (fun k_ => (w.heap.size ≤ k_)) v1 x1_1) ∧ Aside0 (Below w.heap.size w w'))
 case atStart => exact ⟨(t390), (t393), H', ⟨Nat.le_refl _⟩, ⟨Kd.R_V (by (with_reducible repeat (first | apply Kd.R_alloc | apply Kd.R_drewN | apply Kd.R_drew)); exact Kd.R_mono HO392.out (fun _ hk => hk.1.1))⟩, ⟨Kd.R_V (by (with_reducible repeat (first | apply Kd.R_alloc | apply Kd.R_drewN | apply Kd.R_drew)); exact Kd.R_mono HO395.out (fun _ hk => hk.1.1))⟩, ⟨by repeat (first | (with_reducible first | exact HB.out | apply below_alloc | apply pw_below_drewN | apply below_drew1) | exact HB.out)⟩⟩
 case round =>
  clear H'
  try clear c1
  try clear p2
  try clear c6
  obtain ⟨x0_1, x1_1, HA, HK1, HO_0, HO_1, HB⟩ := hrel
  cases gk with
  | zero => exact absurd HA.out (by simp [nat_Gcd.l0])
  | succ k1 =>
   have H := HA.out
   clear HA
   simp only [nat_Gcd.l0] at H
   by_cases c7 : (x1_1.length : Int) > 0
   ·rw [if_pos c7] at H
    have c7b0 : decide (0 < (x1_1.length : Int)) = true := decide_eq_true c7
    have c7b1 : decide (0 < x1_1.length) = true := decide_eq_true (by omega)
    clear c7
    replace H := Option.bind_eq_some_iff.mp H
    obtain ⟨⟨t396, t399, t402⟩, A80, H⟩ := H
    replace H : (nat_Gcd.l0 k1 x1_1 t399) = some r := H
    have A8 := Aside0.mk A80
    clear A80
    have H' := Aside0.mk H
    clear H
    obtain ⟨Ao9, co9, eo9⟩ := Kd.V_slice HO_1.out
    subst eo9
    obtain ⟨Ao10, co10, eo10⟩ := Kd.V_slice HO_0.out
    subst eo10
    go_wp2_with (first | ((with_reducible refine gate_callee (f := 70) rfl ?_); refine Short.goesS_ (some 18) Try.func70 #[.slice Ao10 x0_1.length co10, .slice Ao9 x1_1.length co9] ?_; (with_reducible refine (nat_DivMod.calls k1 _ _ x0_1 _ _ x1_1 t396 t399 t402 _ ((Kd.V_reads' HO_0.out).2.2) ((Kd.V_reads' HO_0.out).2.1) ((Kd.V_reads' HO_1.out).2.2) ((Kd.V_reads' HO_1.out).2.1) A8.out).mono ?_); rintro e w11 ⟨v397, v400, rfl, ho0, ho1, hb⟩; refine ⟨_, rfl, ?_⟩; replace HO_0 := Aside0.mk (Kd.V_elder' HO_0.out (Kd.R_base ho0) hb); replace HO_1 := Aside0.mk (Kd.V_elder' HO_1.out (Kd.R_base ho0) hb); have HO398 := Aside0.mk (Kd.R_lower (Kd.R_newM (M := fun k_ => (w.heap.size ≤ k_)) (Kd.R_mono (ok' := fun k_ => True) ho0 (fun _ hk_ => trivial)) (below_size (by repeat (first | (with_reducible first | exact HB.out | apply below_alloc | apply pw_below_drewN | apply below_drew1) | exact HB.out))) (fun k_ h_ => h_)) (below_size (by repeat (first | (with_reducible first | exact HB.out | apply below_alloc | apply pw_below_drewN | apply below_drew1) | exact HB.out)))); have HO401 := Aside0.mk (Kd.V_lower (Kd.V_mono (ok' := fun k_ => (w.heap.size ≤ k_) ∧ some k_ ≠ (v397 : Value).ownBlock) ho1 (fun k_ hk_ => ⟨(Nat.le_trans (below_size (by repeat (first | (with_reducible first | exact HB.out | apply below_alloc | apply pw_below_drewN | apply below_drew1) | exact HB.out))) hk_.1), hk_.2⟩)) (below_size (by repeat (first | (with_reducible first | exact HB.out | apply below_alloc | apply pw_below_drewN | apply below_drew1) | exact HB.out)))); replace HB := Aside0.mk (below_step (by repeat (first | (with_reducible first | exact HB.out | apply below_alloc | apply pw_below_drewN | apply below_drew1) | exact HB.out)) hb); (try clear hb); (try clear ho0); (try clear ho1)))
    go_roundg k1
    case measure => have := HK1.out; omega
    case rel => exact ⟨(x1_1), (t399), H', ⟨by have := HK1.out; omega⟩, ⟨by (with_reducible repeat (first | apply Kd.V_alloc | apply Kd.V_drewN | apply Kd.V_drew)); exact Kd.V_mono HO_1.out (fun _ hk => hk.1)⟩, ⟨by (with_reducible repeat (first | apply Kd.V_alloc | apply Kd.V_drewN | apply Kd.V_drew)); exact Kd.V_mono HO401.out (fun _ hk => hk.1)⟩, ⟨by repeat (first | (with_reducible first | exact HB.out | apply below_alloc | apply pw_below_drewN | apply below_drew1) | exact HB.out)⟩⟩
   ·rw [if_neg c7] at H
    have c7b0 : decide (0 < (x1_1.length : Int)) = false := decide_eq_false c7
    have c7b1 : decide (0 < x1_1.length) = false := decide_eq_false (by omega)
    clear c7
    obtain rfl := Option.some.inj H
    obtain ⟨Ao12, co12, eo12⟩ := Kd.V_slice HO_1.out
    subst eo12
    go_wp2
    go_ret
    exact ⟨_, by rfl, by (with_reducible repeat (first | apply Kd.V_alloc | apply Kd.V_drewN | apply Kd.V_drew)); exact HO_0.out, by repeat (first | (with_reducible first | exact HB.out | apply below_alloc | apply pw_below_drewN | apply below_drew1) | exact HB.out)⟩

theorem nat_Gcd.ev_l {K : Nat} (hK : K < 1000000) (b : Nat) : ∀ a : Nat, a < 2 ^ (32 * K) → b < 2 ^ (32 * K) → Ev (fun k => nat_Gcd.l0 k (Num.nd a) (Num.nd b)) (Num.nd (Nat.gcd a b)) := by
 induction b using Nat.strongRecOn with
 | ind b ih =>
  intro a ha hb
  by_cases h0 : b = 0
  ·subst h0
   rw [Nat.gcd_zero_right]
   refine Ev.step (f := fun _ => some (Num.nd a)) (fun k => ?_) (Ev.now _)
   rw [nat_Gcd.l0, Num.nd_zero, if_neg (by rw [List.length_nil]; omega)]
  ·have h2 : 0 < (Num.nd b).length := by
    rcases Nat.eq_zero_or_pos (Num.nd b).length with h | h
    ·exact absurd (Num.nd_eq_nil.1 (List.eq_nil_of_length_eq_zero h)) h0
    ·exact h
   have la := Num.nd_length_le ha
   have lb := Num.nd_length_le hb
   have hm := Nat.mod_lt a (Nat.pos_of_ne_zero h0)
   refine Ev.step (f := fun k => nat_Gcd.l0 k (Num.nd b) (Num.nd (a % b))) (fun k => ?_) ?_
   ·rw [nat_Gcd.l0, if_pos (by omega)]
    unfold nat_DivMod.f
    rw [if_pos ((Num.okd_iff _).2 ⟨by omega, Num.Ws_nd _⟩), if_pos ((Num.okd_iff _).2 ⟨by omega, Num.Ws_nd _⟩), Num.nv_nd, Num.nv_nd, if_neg h0, Option.bind_some]
   ·have := ih (a % b) hm b hb (Nat.lt_trans hm hb)
    rw [Nat.gcd_comm b (a % b), ← Nat.gcd_rec, Nat.gcd_comm b a] at this
    exact this
theorem nat_Gcd.ev {l0 l1 : List Int} {K : Nat} (hK : K < 1000000) (W0 : Num.Ws l0) (W1 : Num.Ws l1) (h0 : l0.length ≤ K) (h1 : l1.length ≤ K) : Ev (fun k => nat_Gcd.f k l0 l1) (Num.nd (Nat.gcd (Num.nv l0) (Num.nv l1))) := by
 unfold nat_Gcd.f
 exact Ev.bind (nat_trim.ev W0 (by omega)) (Ev.bind (nat_trim.ev W1 (by omega)) (nat_Gcd.ev_l hK _ _ (Nat.lt_of_lt_of_le (Num.nv_lt W0) (Nat.pow_le_pow_right (by omega) (by omega))) (Nat.lt_of_lt_of_le (Num.nv_lt W1) (Nat.pow_le_pow_right (by omega) (by omega)))))
/-! ### rat_Make: function 36 -/
def rat_Make.f (k : Nat) (a0_0 : Bool) (l0_1 : List Int) (l1 : List Int) : Option (Bool × List Int × List Int) := (rat_den.f k false ([] : List Int) l1).bind fun t405 => ((nat_Gcd.f k l0_1 t405).bind fun t408 => ((nat_DivMod.f k l0_1 t408).bind fun bt411 => ((nat_DivMod.f k t405 t408).bind fun bt418 => ((whole_Make.f k a0_0 bt411.1).bind fun bt425 => (some (bt425.1, bt425.2, bt418.1))))))
set_option maxHeartbeats 8000000 in
set_option maxRecDepth 100000 in
theorem rat_Make.calls (k : Nat) (a0_0 : Bool) (A0_1 : Option Addr) (c0_1 : Nat) (l0_1 : List Int) (A1 : Option Addr) (c1 : Nat) (l1 : List Int) (r1 : Bool) (r2 : List Int) (r3 : List Int) (w : World) (hr0_1 : Kd.C (Kd.int .u32) w A0_1 l0_1.length l0_1) (hc0_1 : l0_1.length ≤ c0_1) (hr1 : Kd.C (Kd.int .u32) w A1 l1.length l1) (hc1 : l1.length ≤ c1) (h : rat_Make.f k a0_0 l0_1 l1 = some (r1, r2, r3)) :
  Calls Try.prog 36 #[.agg #[.bool a0_0, .slice A0_1 l0_1.length c0_1], .slice A1 l1.length c1] w fun e w' => ∃ v1_ v2_ : Value, e = .returned (.agg #[.bool r1, v1_, v2_]) ∧ Kd.R (Kd.int .u32) 89 w' w.heap.size (fun k_ => some k_ ≠ (v2_ : Value).ownBlock) v1_ r2 ∧ Kd.R (Kd.int .u32) 89 w' w.heap.size (fun k_ => some k_ ≠ (v1_ : Value).ownBlock) v2_ r3 ∧ Below w.heap.size w w' := by
 have hu25 := Try.underlying25
 have hu27 := Try.underlying27
 have HR0_1 := Aside0.mk hr0_1
 have HC0_1 := Aside0.mk hc0_1
 clear hr0_1 hc0_1
 have HR1 := Aside0.mk hr1
 have HC1 := Aside0.mk hc1
 clear hr1 hc1
 have HB := Aside0.mk (Below.refl w.heap.size w)
 have H : ((rat_den.f k false ([] : List Int) l1).bind fun t405 => ((nat_Gcd.f k l0_1 t405).bind fun t408 => ((nat_DivMod.f k l0_1 t408).bind fun bt411 => ((nat_DivMod.f k t405 t408).bind fun bt418 => ((whole_Make.f k a0_0 bt411.1).bind fun bt425 => (some (bt425.1, bt425.2, bt418.1))))))) = some (r1, r2, r3) := h
 clear h
 replace H := Option.bind_eq_some_iff.mp H
 obtain ⟨t405, A30, H⟩ := H
 try dsimp only at H
 have A3 := Aside0.mk A30
 clear A30
 replace H := Option.bind_eq_some_iff.mp H
 obtain ⟨t408, A40, H⟩ := H
 try dsimp only at H
 have A4 := Aside0.mk A40
 clear A40
 replace H := Option.bind_eq_some_iff.mp H
 obtain ⟨⟨t411, t414, t417⟩, A50, H⟩ := H
 try dsimp only at H
 have A5 := Aside0.mk A50
 clear A50
 replace H := Option.bind_eq_some_iff.mp H
 obtain ⟨⟨t418, t421, t424⟩, A60, H⟩ := H
 try dsimp only at H
 have A6 := Aside0.mk A60
 clear A60
 replace H := Option.bind_eq_some_iff.mp H
 obtain ⟨⟨t425, t426⟩, A70, H⟩ := H
 replace H : (some (t425, t426, t418)) = some (r1, r2, r3) := H
 have A7 := Aside0.mk A70
 clear A70
 simp only [Option.some.injEq, Prod.mk.injEq] at H
 obtain ⟨rfl, rfl, rfl⟩ := H
 go_enter Try.func36, Try.ntmps36
 go_wp2_with (first | ((with_reducible refine gate_dst (N := 2) rfl ?_); refine Short.boxS_ (N := 2) (cs := #[.bool a0_0, .slice A0_1 l0_1.length c0_1]) (t := 25) ?_; intro gb403 hg w8 hbox hb; have BK403 := Aside0.mk (hbox); have GW403 := Aside0.mk ((by rw [hg]; exact (below_size (by repeat (first | (with_reducible first | exact HB.out | apply below_alloc | apply pw_below_drewN | apply below_drew1) | exact HB.out))) : w.heap.size ≤ gb403)); have GE403 := Aside0.mk ((by rw [hg]; exact (below_size (by repeat (first | (with_reducible first | exact HB.out | apply below_alloc | apply pw_below_drewN | apply below_drew1) | exact HB.out))) : w.heap.size ≤ gb403)); replace HB := Aside0.mk (below_step (by repeat (first | (with_reducible first | exact HB.out | apply below_alloc | apply pw_below_drewN | apply below_drew1) | exact HB.out)) hb); clear hb hbox hg) | ((with_reducible refine gate_dst (N := 4) rfl ?_); refine Short.boxS_ (N := 4) (cs := #[.bool false, .slice none 0 0, .slice none 0 0]) (t := 27) ?_; intro gb404 hg w9 hbox hb; have BK404 := Aside0.mk (hbox); have GW404 := Aside0.mk ((by rw [hg]; exact (below_size HB.out) : w.heap.size ≤ gb404)); have GE404 := Aside0.mk ((by rw [hg]; exact (below_size HB.out) : w.heap.size ≤ gb404)); replace HB := Aside0.mk (below_step HB.out hb); have NB403_404 := Short.ltA_ hg BK403; have NB404_403 := Short.gtA_ hg BK403; replace BK403 := Aside0.mk (blk_below BK403.out hb); clear hb hbox hg) | ((with_reducible refine gate_callee (f := 46) rfl ?_); refine Short.goesS_ (some 14) Try.func46 #[.agg #[.bool false, .slice none 0 0, .slice A1 l1.length c1]] ?_; (refine (rat_den.calls k false _ _ ([] : List Int) (fun k_ => k_ < w.heap.size) _ _ l1 t405 _ ?side1 ?side2 ?side3 A3.out).mono ?_); (case side1 => exact Kd.C_nil _ _); (case side2 => exact Nat.le_refl _); (case side3 => exact Kd.V_mk HC1.out (Kd.F_below (Kd.C_F (Kd.heap_int .u32) HR1.out) HB.out)); rintro e w10 ⟨v406, rfl, ho0, hb⟩; refine ⟨_, rfl, ?_⟩; have HO407 := Aside0.mk (Kd.V_lower (Kd.V_mono (ok' := fun k_ => k_ ≠ gb403 ∧ k_ ≠ gb404) ho0 (fun k_ hk_ => ⟨Or.elim hk_ (fun hs_ => fun e_ => Nat.not_le.2 hs_ (by rw [e_]; exact GW403.out)) (fun hn_ => (Kd.freshB (g := gb403) (o := .cells #[.bool a0_0, .slice A0_1 l0_1.length c0_1] 25 (0, 0)) BK403.out k_ hn_)), Or.elim hk_ (fun hs_ => fun e_ => Nat.not_le.2 hs_ (by rw [e_]; exact GW404.out)) (fun hn_ => (Kd.freshB (g := gb404) (o := .cells #[.bool false, .slice none 0 0, .slice none 0 0] 27 (0, 0)) BK404.out k_ hn_))⟩)) (below_size HB.out)); replace BK403 := Aside0.mk (blk_below BK403.out hb); replace BK404 := Aside0.mk (blk_below BK404.out hb); replace HB := Aside0.mk (below_step HB.out hb); (try clear hb); (try clear ho0); have hnb11 := NB403_404.out; have hnc11 := NB404_403.out; have hcz12_0 : w10.cell? ⟨gb403, 0, none⟩ = some (.bool a0_0) := (blk_cell BK403.out 0).trans rfl; have hcz12_1 : w10.cell? ⟨gb403, 1, none⟩ = some (.slice A0_1 l0_1.length c0_1) := (blk_cell BK403.out 1).trans rfl; have hfz12_0 := blk_frozen BK403.out 0; have hfz12_1 := blk_frozen BK403.out 1; obtain ⟨Ao13, co13, eo13⟩ := Kd.V_slice HO407.out; subst eo13) | ((with_reducible refine gate_callee (f := 69) rfl ?_); refine Short.goesS_ (some 18) Try.func69 #[.slice A0_1 l0_1.length c0_1, .slice Ao13 t405.length co13] ?_; (with_reducible refine (nat_Gcd.calls k _ _ l0_1 _ _ t405 t408 _ (Kd.C_below HR0_1.out HB.out) HC0_1.out ((Kd.V_reads' HO407.out).2.2) ((Kd.V_reads' HO407.out).2.1) A4.out).mono ?_); rintro e w14 ⟨v409, rfl, ho0, hb⟩; refine ⟨_, rfl, ?_⟩; replace HO407 := Aside0.mk (Kd.V_below HO407.out hb); have HO410 := Aside0.mk (Kd.V_lower (Kd.V_mono (ok' := fun k_ => k_ ≠ gb403 ∧ k_ ≠ gb404) ho0 (fun k_ hk_ => ⟨(Kd.freshB (g := gb403) (o := .cells #[.bool a0_0, .slice A0_1 l0_1.length c0_1] 25 (0, 0)) BK403.out k_ hk_), (Kd.freshB (g := gb404) (o := .cells #[.bool false, .slice none 0 0, .slice none 0 0] 27 (0, 0)) BK404.out k_ hk_)⟩)) (below_size HB.out)); replace BK403 := Aside0.mk (blk_below BK403.out hb); replace BK404 := Aside0.mk (blk_below BK404.out hb); replace HB := Aside0.mk (below_step HB.out hb); (try clear hb); (try clear ho0); have hcz15_0 : w14.cell? ⟨gb403, 0, none⟩ = some (.bool a0_0) := (blk_cell BK403.out 0).trans rfl; have hcz15_1 : w14.cell? ⟨gb403, 1, none⟩ = some (.slice A0_1 l0_1.length c0_1) := (blk_cell BK403.out 1).trans rfl; have hfz15_0 := blk_frozen BK403.out 0; have hfz15_1 := blk_frozen BK403.out 1; obtain ⟨Ao16, co16, eo16⟩ := Kd.V_slice HO410.out; subst eo16) | ((with_reducible refine gate_callee (f := 70) rfl ?_); refine Short.goesS_ (some 23) Try.func70 #[.slice A0_1 l0_1.length c0_1, .slice Ao16 t408.length co16] ?_; (with_reducible refine (nat_DivMod.calls k _ _ l0_1 _ _ t408 t411 t414 t417 _ (Kd.C_below HR0_1.out HB.out) HC0_1.out ((Kd.V_reads' HO410.out).2.2) ((Kd.V_reads' HO410.out).2.1) A5.out).mono ?_); rintro e w17 ⟨v412, v415, rfl, ho0, ho1, hb⟩; refine ⟨_, rfl, ?_⟩; replace HO407 := Aside0.mk (Kd.V_elder' HO407.out (Kd.R_base ho0) hb); replace HO410 := Aside0.mk (Kd.V_elder' HO410.out (Kd.R_base ho0) hb); have HO413 := Aside0.mk (Kd.R_lower (Kd.R_mono (ok' := fun k_ => True) ho0 (fun _ hk_ => trivial)) (below_size HB.out)); have HO416 := Aside0.mk (Kd.V_lower (Kd.V_mono (ok' := fun k_ => some k_ ≠ (v412 : Value).ownBlock ∧ k_ ≠ gb403 ∧ k_ ≠ gb404) ho1 (fun k_ hk_ => ⟨hk_.2, (Kd.freshB (g := gb403) (o := .cells #[.bool a0_0, .slice A0_1 l0_1.length c0_1] 25 (0, 0)) BK403.out k_ hk_.1), (Kd.freshB (g := gb404) (o := .cells #[.bool false, .slice none 0 0, .slice none 0 0] 27 (0, 0)) BK404.out k_ hk_.1)⟩)) (below_size HB.out)); replace BK403 := Aside0.mk (blk_below BK403.out hb); replace BK404 := Aside0.mk (blk_below BK404.out hb); replace HB := Aside0.mk (below_step HB.out hb); (try clear hb); (try clear ho0); (try clear ho1)) | ((with_reducible refine gate_callee (f := 70) rfl ?_); refine Short.goesS_ (some 30) Try.func70 #[.slice Ao13 t405.length co13, .slice Ao16 t408.length co16] ?_; (with_reducible refine (nat_DivMod.calls k _ _ t405 _ _ t408 t418 t421 t424 _ ((Kd.V_reads' HO407.out).2.2) ((Kd.V_reads' HO407.out).2.1) ((Kd.V_reads' HO410.out).2.2) ((Kd.V_reads' HO410.out).2.1) A6.out).mono ?_); rintro e w18 ⟨v419, v422, rfl, ho0, ho1, hb⟩; refine ⟨_, rfl, ?_⟩; replace HO407 := Aside0.mk (Kd.V_elder' HO407.out (Kd.R_base ho0) hb); replace HO410 := Aside0.mk (Kd.V_elder' HO410.out (Kd.R_base ho0) hb); replace HO416 := Aside0.mk (Kd.V_elder' HO416.out (Kd.R_base ho0) hb); have HO420 := Aside0.mk (Kd.R_lower (Kd.R_new' (Kd.R_mono (ok' := fun k_ => True) ho0 (fun _ hk_ => trivial)) (Kd.R_lt HO413.out)) (below_size HB.out)); have HO423 := Aside0.mk (Kd.V_lower (Kd.V_mono (ok' := fun k_ => some k_ ≠ (v419 : Value).ownBlock ∧ some k_ ≠ (v412 : Value).ownBlock ∧ k_ ≠ gb403 ∧ k_ ≠ gb404) ho1 (fun k_ hk_ => ⟨hk_.2, (Kd.fresh' (Kd.R_lt HO413.out) k_ hk_.1), (Kd.freshB (g := gb403) (o := .cells #[.bool a0_0, .slice A0_1 l0_1.length c0_1] 25 (0, 0)) BK403.out k_ hk_.1), (Kd.freshB (g := gb404) (o := .cells #[.bool false, .slice none 0 0, .slice none 0 0] 27 (0, 0)) BK404.out k_ hk_.1)⟩)) (below_size HB.out)); replace HO413 := Aside0.mk (Kd.R_elder' HO413.out (Kd.R_base ho0) hb); replace BK403 := Aside0.mk (blk_below BK403.out hb); replace BK404 := Aside0.mk (blk_below BK404.out hb); replace HB := Aside0.mk (below_step HB.out hb); (try clear hb); (try clear ho0); (try clear ho1); have hcz19_0 : w18.cell? ⟨gb403, 0, none⟩ = some (.bool a0_0) := (blk_cell BK403.out 0).trans rfl; have hcz19_1 : w18.cell? ⟨gb403, 1, none⟩ = some (.slice A0_1 l0_1.length c0_1) := (blk_cell BK403.out 1).trans rfl; have hfz19_0 := blk_frozen BK403.out 0; have hfz19_1 := blk_frozen BK403.out 1; obtain ⟨Ao20, co20, eo20⟩ := Kd.R_slice HO413.out; subst eo20) | ((with_reducible refine gate_callee (f := 45) rfl ?_); refine Short.goesS_ (some 37) Try.func45 #[.bool a0_0, .slice Ao20 t411.length co20] ?_; (with_reducible refine (whole_Make.calls k a0_0 _ _ t411 t425 t426 _ ((Kd.R_reads' HO413.out).2.2) ((Kd.R_reads' HO413.out).2.1) A7.out).mono ?_); rintro e w21 ⟨v427, rfl, ho0, hb⟩; refine ⟨_, rfl, ?_⟩; replace HO407 := Aside0.mk (Kd.V_elder' HO407.out (Kd.R_base ho0) hb); replace HO410 := Aside0.mk (Kd.V_elder' HO410.out (Kd.R_base ho0) hb); replace HO416 := Aside0.mk (Kd.V_elder' HO416.out (Kd.R_base ho0) hb); replace HO423 := Aside0.mk (Kd.V_elder' HO423.out (Kd.R_base ho0) hb); have HO428 := Aside0.mk (Kd.R_lower (Kd.R_new' (Kd.R_new' ho0 (Kd.R_lt HO413.out)) (Kd.R_lt HO420.out)) (below_size HB.out)); replace HO413 := Aside0.mk (Kd.R_elder' HO413.out (Kd.R_base ho0) hb); replace HO420 := Aside0.mk (Kd.R_elder' HO420.out (Kd.R_base ho0) hb); replace BK403 := Aside0.mk (blk_below BK403.out hb); replace BK404 := Aside0.mk (blk_below BK404.out hb); replace HB := Aside0.mk (below_step HB.out hb); (try clear hb); (try clear ho0); obtain ⟨Ao22, co22, eo22⟩ := Kd.R_slice HO420.out; subst eo22; obtain ⟨Ao23, co23, eo23⟩ := Kd.R_slice HO428.out; subst eo23; have hcz24_0 : w21.cell? ⟨gb404, 0, none⟩ = some (.bool false) := (blk_cell BK404.out 0).trans rfl; have hcz24_1 : w21.cell? ⟨gb404, 1, none⟩ = some (.slice none 0 0) := (blk_cell BK404.out 1).trans rfl; have hcz24_2 : w21.cell? ⟨gb404, 2, none⟩ = some (.slice none 0 0) := (blk_cell BK404.out 2).trans rfl; have hfz24_0 := blk_frozen BK404.out 0; have hfz24_1 := blk_frozen BK404.out 1; have hfz24_2 := blk_frozen BK404.out 2))
 refine bodyPost_ret (results_cell_row rfl _ _ gb404 27 #[.bool t425, .slice Ao23 t426.length co23, .slice Ao22 t418.length co22] (0, 0) _ rfl (by (with_reducible repeat (first | refine blk_drewN ?_ _ | refine blk_drew ?_ | refine blk_alloc ?_ _)); refine blk_put (cs := #[.bool t425, .slice Ao23 t426.length co23, .slice none 0 0]) ?_ 2 _ rfl; (with_reducible repeat (first | refine blk_drewN ?_ _ | refine blk_drew ?_ | refine blk_alloc ?_ _)); refine blk_put (cs := #[.bool t425, .slice none 0 0, .slice none 0 0]) ?_ 1 _ rfl; (with_reducible repeat (first | refine blk_drewN ?_ _ | refine blk_drew ?_ | refine blk_alloc ?_ _)); refine blk_put (cs := #[.bool false, .slice none 0 0, .slice none 0 0]) ?_ 0 _ rfl; (with_reducible repeat (first | refine blk_drewN ?_ _ | refine blk_drew ?_ | refine blk_alloc ?_ _)); exact BK404.out) Try.underlying27 rfl (by kernel_rfl)) rfl ?_
 exact ⟨_, _, by rfl, by (with_reducible repeat (first | apply Kd.R_alloc | apply Kd.R_drewN | apply Kd.R_drew)); exact Kd.R_mono (Kd.R_far (p := ⟨gb404, 2, none⟩) (Kd.R_far (p := ⟨gb404, 1, none⟩) (Kd.R_far (p := ⟨gb404, 0, none⟩) (Kd.R_types HO428.out BK404.out (by decide)) (fun _ hk => hk.2) (.bool t425)) (fun _ hk => hk.2) (.slice Ao23 t426.length co23)) (fun _ hk => hk.2) (.slice Ao22 t418.length co22)) (fun _ hk => hk.1.2), by (with_reducible repeat (first | apply Kd.R_alloc | apply Kd.R_drewN | apply Kd.R_drew)); exact Kd.R_mono (Kd.R_far (p := ⟨gb404, 2, none⟩) (Kd.R_far (p := ⟨gb404, 1, none⟩) (Kd.R_far (p := ⟨gb404, 0, none⟩) (Kd.R_types HO420.out BK404.out (by decide)) (fun _ hk => hk.2) (.bool t425)) (fun _ hk => hk.2) (.slice Ao23 t426.length co23)) (fun _ hk => hk.2) (.slice Ao22 t418.length co22)) (fun _ hk => hk.1.2), by repeat (first | (with_reducible first | exact HB.out | apply below_alloc | apply pw_below_drewN | apply below_drew1 | refine below_set ?_ GE403.out | refine below_set ?_ GE404.out) | exact HB.out)⟩

theorem rat_Make.ev {m : Bool} {l1 l2 : List Int} {p : Int} {K : Nat} (h : Zn.Is m l1 p K) (hW : Num.Ws l2) (hl : l2.length ≤ K) (hK1 : 1 ≤ K) (hK : K < 400000) : Ev (fun k => rat_Make.f k m l1 l2) (Qn.qd (mkRat p (Qn.dn (Num.nv l2)))) := by
 have hd := Qn.dn_ne (Num.nv l2)
 have W := Qn.ws_dl hW
 have L := Qn.len_dl hl hK1
 have V := Qn.nv_dl l2
 have G := nat_Gcd.ev (K := K) (by omega) h.ws W h.len L
 rw [V] at G
 obtain ⟨g, hg⟩ : ∃ g, g = Nat.gcd (Num.nv l1) (Qn.dn (Num.nv l2)) := ⟨_, rfl⟩
 rw [← hg] at G
 have g0 : g ≠ 0 := by
  have := Nat.gcd_pos_of_pos_right (Num.nv l1) (Nat.pos_of_ne_zero hd)
  omega
 have bd := Qn.dn_lt hW hl hK1
 have bg : g < 2 ^ (32 * K) := Nat.lt_of_le_of_lt (Nat.le_of_dvd (Nat.pos_of_ne_zero hd) (by rw [hg]; exact Nat.gcd_dvd_right _ _)) bd
 have l1K := h.len
 have q1 := (Num.okd_iff l1).2 ⟨by omega, h.ws⟩
 have q2 := (Num.okd_iff (Qn.dl l2)).2 ⟨by omega, W⟩
 have qg := (Num.okd_iff (Num.nd g)).2 ⟨Nat.lt_of_le_of_lt (Num.nd_length_le bg) (by omega), Num.Ws_nd _⟩
 have D1 : ∀ k, nat_DivMod.f k l1 (Num.nd g) = some (Num.nd (Num.nv l1 / g), Num.nd (Num.nv l1 % g), 0) := fun k => by unfold nat_DivMod.f; rw [if_pos q1, if_pos qg, Num.nv_nd, if_neg g0]
 have D2 : ∀ k, nat_DivMod.f k (Qn.dl l2) (Num.nd g) = some (Num.nd (Qn.dn (Num.nv l2) / g), Num.nd (Qn.dn (Num.nv l2) % g), 0) := fun k => by unfold nat_DivMod.f; rw [if_pos q2, if_pos qg, Num.nv_nd, if_neg g0, V]
 have M := whole_Make.ev (Zn.Is.nd (m := m) (Nat.lt_of_le_of_lt (Nat.div_le_self (Num.nv l1) g) (Num.nv_lt_of h.ws h.len))) (by omega)
 have e1 := Qn.num_eq m (Num.nv l1) (Qn.dn (Num.nv l2)) hd
 have e2 := Qn.den_eq m (Num.nv l1) (Qn.dn (Num.nv l2)) hd
 rw [← hg, h.val] at e1 e2
 unfold rat_Make.f Qn.qd
 rw [e1, e2]
 exact Ev.bind (rat_den.ev hW (by omega)) (Ev.bind G (Dec.val D1 (Dec.val D2 (Ev.bind M (Ev.now _)))))
/-! ### rat_Neg: function 33 -/
def rat_Neg.f (k : Nat) (a0_0 : Bool) (l0_1 : List Int) (l0_2 : List Int) : Option (Bool × List Int × List Int) := (whole_Neg.f k a0_0 l0_1).bind fun bt431 => ((rat_Make.f k bt431.1 bt431.2 l0_2).bind fun bt435 => (some (bt435.1, bt435.2.1, bt435.2.2)))
set_option maxHeartbeats 8000000 in
set_option maxRecDepth 100000 in
theorem rat_Neg.calls (k : Nat) (a0_0 : Bool) (A0_1 : Option Addr) (c0_1 : Nat) (l0_1 : List Int) (A0_2 : Option Addr) (c0_2 : Nat) (l0_2 : List Int) (r1 : Bool) (r2 : List Int) (r3 : List Int) (w : World) (hr0_1 : Kd.C (Kd.int .u32) w A0_1 l0_1.length l0_1) (hc0_1 : l0_1.length ≤ c0_1) (hr0_2 : Kd.C (Kd.int .u32) w A0_2 l0_2.length l0_2) (hc0_2 : l0_2.length ≤ c0_2) (h : rat_Neg.f k a0_0 l0_1 l0_2 = some (r1, r2, r3)) :
  Calls Try.prog 33 #[.agg #[.bool a0_0, .slice A0_1 l0_1.length c0_1, .slice A0_2 l0_2.length c0_2]] w fun e w' => ∃ v1_ v2_ : Value, e = .returned (.agg #[.bool r1, v1_, v2_]) ∧ Kd.R (Kd.int .u32) 89 w' w.heap.size (fun k_ => some k_ ≠ (v2_ : Value).ownBlock) v1_ r2 ∧ Kd.R (Kd.int .u32) 89 w' w.heap.size (fun k_ => some k_ ≠ (v1_ : Value).ownBlock) v2_ r3 ∧ Below w.heap.size w w' := by
 have hu27 := Try.underlying27
 have hu25 := Try.underlying25
 have HR0_1 := Aside0.mk hr0_1
 have HC0_1 := Aside0.mk hc0_1
 clear hr0_1 hc0_1
 have HR0_2 := Aside0.mk hr0_2
 have HC0_2 := Aside0.mk hc0_2
 clear hr0_2 hc0_2
 have HB := Aside0.mk (Below.refl w.heap.size w)
 have H : ((whole_Neg.f k a0_0 l0_1).bind fun bt431 => ((rat_Make.f k bt431.1 bt431.2 l0_2).bind fun bt435 => (some (bt435.1, bt435.2.1, bt435.2.2)))) = some (r1, r2, r3) := h
 clear h
 replace H := Option.bind_eq_some_iff.mp H
 obtain ⟨⟨t431, t432⟩, A20, H⟩ := H
 try dsimp only at H
 have A2 := Aside0.mk A20
 clear A20
 replace H := Option.bind_eq_some_iff.mp H
 obtain ⟨⟨t435, t436, t439⟩, A30, H⟩ := H
 replace H : (some (t435, t436, t439)) = some (r1, r2, r3) := H
 have A3 := Aside0.mk A30
 clear A30
 simp only [Option.some.injEq, Prod.mk.injEq] at H
 obtain ⟨rfl, rfl, rfl⟩ := H
 go_enter Try.func33, Try.ntmps33
 try go_wp2_with (first | ((with_reducible refine gate_dst (N := 1) rfl ?_); refine Short.boxS_ (N := 1) (cs := #[.bool a0_0, .slice A0_1 l0_1.length c0_1, .slice A0_2 l0_2.length c0_2]) (t := 27) ?_; intro gb429 hg w4 hbox hb; have BK429 := Aside0.mk (hbox); have GW429 := Aside0.mk ((by rw [hg]; exact (below_size (by repeat (first | (with_reducible first | exact HB.out | apply below_alloc | apply pw_below_drewN | apply below_drew1) | exact HB.out))) : w.heap.size ≤ gb429)); have GE429 := Aside0.mk ((by rw [hg]; exact (below_size (by repeat (first | (with_reducible first | exact HB.out | apply below_alloc | apply pw_below_drewN | apply below_drew1) | exact HB.out))) : w.heap.size ≤ gb429)); replace HB := Aside0.mk (below_step (by repeat (first | (with_reducible first | exact HB.out | apply below_alloc | apply pw_below_drewN | apply below_drew1) | exact HB.out)) hb); clear hb hbox hg) | ((with_reducible refine gate_dst (N := 2) rfl ?_); refine Short.boxS_ (N := 2) (cs := #[.bool false, .slice none 0 0, .slice none 0 0]) (t := 27) ?_; intro gb430 hg w5 hbox hb; have BK430 := Aside0.mk (hbox); have GW430 := Aside0.mk ((by rw [hg]; exact (below_size HB.out) : w.heap.size ≤ gb430)); have GE430 := Aside0.mk ((by rw [hg]; exact (below_size HB.out) : w.heap.size ≤ gb430)); replace HB := Aside0.mk (below_step HB.out hb); have NB429_430 := Short.ltA_ hg BK429; have NB430_429 := Short.gtA_ hg BK429; replace BK429 := Aside0.mk (blk_below BK429.out hb); clear hb hbox hg))
 replace BK429 := Aside0.mk (blk_drew BK429.out)
 replace BK430 := Aside0.mk (blk_drew BK430.out)
 replace HB := Aside0.mk (below_drew1 HB.out)
 refine start_ (n := 7) (S := fun w' => w'.cell? ⟨gb429, 0, none⟩ = some (.bool a0_0) ∧ w'.cell? ⟨gb429, 1, none⟩ = some (.slice A0_1 l0_1.length c0_1) ∧ w'.cell? ⟨gb429, 2, none⟩ = some (.slice A0_2 l0_2.length c0_2)) (ds := []) #[false, false, false, false, false, false, false] (by kernel_rfl) rfl rfl ⟨(blk_cell BK429.out 0).trans rfl, (blk_cell BK429.out 1).trans rfl, (blk_cell BK429.out 2).trans rfl⟩ (fun hHeld => ?_)
 generalize w5.drew = w6 at BK429 BK430 HB hHeld ⊢
 refine Short.pureS_ (i := 0) (N := some 3) #[true, false, false, false, false, false, false] (by kernel_rfl) ?_
 refine Short.pureS_ (i := 3) (N := some 6) #[true, false, false, true, false, false, false] (by kernel_rfl) ?_
 refine Short.takeS_ (i := 1) (N := some 4) #[true, true, false, true, false, false, false] (by kernel_rfl) hHeld ?_
 refine Short.takeS_ (i := 4) (N := some 7) #[true, true, false, true, true, false, false] (by kernel_rfl) hHeld ?_
 refine one_ (i := 2) (N := some 5) #[true, true, true, true, true, false, false] rfl rfl (by kernel_rfl) (by decide) (fun K hK => ?_)
 refine Short.goesD_ Try.func61 #[.agg #[.bool a0_0, .slice A0_1 l0_1.length c0_1]] ?_
 with_reducible refine (whole_Neg.calls k a0_0 _ _ l0_1 t431 t432 _ (Kd.C_below HR0_1.out HB.out) HC0_1.out A2.out).mono ?_
 rintro e w7 ⟨v433, rfl, ho0, hb⟩
 refine ⟨_, rfl, ?_⟩
 have HO434 := Aside0.mk (Kd.R_lower ho0 (below_size HB.out))
 replace BK429 := Aside0.mk (blk_below BK429.out hb)
 replace BK430 := Aside0.mk (blk_below BK430.out hb)
 replace HB := Aside0.mk (below_step HB.out hb)
 (try clear hb)
 (try clear ho0)
 obtain ⟨Ao8, co8, eo8⟩ := Kd.R_slice HO434.out
 (first | subst eo8 | (injection eo8 with f1_ f2_ f3_; have f4_ := f1_.symm; have f5_ := f3_.symm; clear f1_ f2_ f3_; subst f4_; subst f5_))
 refine hK.out _ _ ⟨(blk_cell BK429.out 0).trans rfl, (blk_cell BK429.out 1).trans rfl, (blk_cell BK429.out 2).trans rfl⟩ (fun hHeld => ?_)
 clear hK K
 refine Short.normS_ ?_
 refine one_ (i := 5) (N := some 8) #[true, true, true, true, true, true, false] rfl rfl (by kernel_rfl) (by decide) (fun K hK => ?_)
 refine Short.goesD_ Try.func36 #[.agg #[.bool t431, .slice Ao8 t432.length co8], .slice A0_2 l0_2.length c0_2] ?_
 with_reducible refine (rat_Make.calls k t431 _ _ t432 _ _ l0_2 t435 t436 t439 _ ((Kd.R_reads' HO434.out).2.2) ((Kd.R_reads' HO434.out).2.1) (Kd.C_below HR0_2.out HB.out) HC0_2.out A3.out).mono ?_
 rintro e w9 ⟨v437, v440, rfl, ho0, ho1, hb⟩
 refine ⟨_, rfl, ?_⟩
 have HO438 := Aside0.mk (Kd.R_lower (Kd.R_new' ho0 (Kd.R_lt HO434.out)) (below_size HB.out))
 have HO441 := Aside0.mk (Kd.R_lower (Kd.R_new' ho1 (Kd.R_lt HO434.out)) (below_size HB.out))
 replace HO434 := Aside0.mk (Kd.R_mono (Kd.R_told (Kd.R_told (Kd.R_old HO434.out hb) (Kd.R_base ho0)) (Kd.R_base ho1)) (fun _ h_ => h_.1))
 replace BK429 := Aside0.mk (blk_below BK429.out hb)
 replace BK430 := Aside0.mk (blk_below BK430.out hb)
 replace HB := Aside0.mk (below_step HB.out hb)
 (try clear hb)
 (try clear ho0)
 (try clear ho1)
 obtain ⟨Ao11, co11, eo11⟩ := Kd.R_slice HO438.out
 (first | subst eo11 | (injection eo11 with f1_ f2_ f3_; have f4_ := f1_.symm; have f5_ := f3_.symm; clear f1_ f2_ f3_; subst f4_; subst f5_))
 obtain ⟨Ao13, co13, eo13⟩ := Kd.R_slice HO441.out
 (first | subst eo13 | (injection eo13 with f1_ f2_ f3_; have f4_ := f1_.symm; have f5_ := f3_.symm; clear f1_ f2_ f3_; subst f4_; subst f5_))
 refine hK.out _ _ ⟨(blk_cell BK429.out 0).trans rfl, (blk_cell BK429.out 1).trans rfl, (blk_cell BK429.out 2).trans rfl⟩ (fun hHeld => ?_)
 clear hK K
 refine Short.normS_ ?_
 refine one_ (i := 6) (N := none) #[true, true, true, true, true, true, true] rfl rfl (by kernel_rfl) (by decide) (fun K hK => ?_)
 have hs10 : w9.cell? ⟨gb430, 0, none⟩ = some (.bool false) := (blk_cell BK430.out 0).trans rfl
 have hfs10 := blk_frozen BK430.out 0
 have hns10_0 := NB429_430.out
 have hms10_0 := NB430_429.out
 have hs12 : w9.cell? ⟨gb430, 1, none⟩ = some (.slice none 0 0) := (blk_cell BK430.out 1).trans rfl
 have hfs12 := blk_frozen BK430.out 1
 have hns12_0 := NB429_430.out
 have hms12_0 := NB430_429.out
 have hs14 : w9.cell? ⟨gb430, 2, none⟩ = some (.slice none 0 0) := (blk_cell BK430.out 2).trans rfl
 have hfs14 := blk_frozen BK430.out 2
 have hns14_0 := NB429_430.out
 have hms14_0 := NB430_429.out
 refine skip_ (w1 := ?_) (by rfl) rfl ?_ ?_
 rotate_left
 ·go_simp
  rfl
 refine hK.out _ _ ⟨((cell_far (p := ⟨gb430, _, none⟩) NB429_430.out _).trans (((cell_far (p := ⟨gb430, _, none⟩) NB429_430.out _).trans (((cell_far (p := ⟨gb430, _, none⟩) NB429_430.out _).trans (hHeld.1)))))), ((cell_far (p := ⟨gb430, _, none⟩) NB429_430.out _).trans (((cell_far (p := ⟨gb430, _, none⟩) NB429_430.out _).trans (((cell_far (p := ⟨gb430, _, none⟩) NB429_430.out _).trans (hHeld.2.1)))))), ((cell_far (p := ⟨gb430, _, none⟩) NB429_430.out _).trans (((cell_far (p := ⟨gb430, _, none⟩) NB429_430.out _).trans (((cell_far (p := ⟨gb430, _, none⟩) NB429_430.out _).trans (hHeld.2.2))))))⟩ (fun hHeld => ?_)
 clear hK K
 refine done_ (by kernel_rfl) ?_
 try go_wp2
 refine bodyPost_ret (results_cell_row rfl _ _ gb430 27 #[.bool t435, .slice Ao11 t436.length co11, .slice Ao13 t439.length co13] (0, 0) _ rfl (by (with_reducible repeat (first | refine blk_drewN ?_ _ | refine blk_drew ?_ | refine blk_alloc ?_ _)); refine blk_put (cs := #[.bool t435, .slice Ao11 t436.length co11, .slice none 0 0]) ?_ 2 _ rfl; (with_reducible repeat (first | refine blk_drewN ?_ _ | refine blk_drew ?_ | refine blk_alloc ?_ _)); refine blk_put (cs := #[.bool t435, .slice none 0 0, .slice none 0 0]) ?_ 1 _ rfl; (with_reducible repeat (first | refine blk_drewN ?_ _ | refine blk_drew ?_ | refine blk_alloc ?_ _)); refine blk_put (cs := #[.bool false, .slice none 0 0, .slice none 0 0]) ?_ 0 _ rfl; (with_reducible repeat (first | refine blk_drewN ?_ _ | refine blk_drew ?_ | refine blk_alloc ?_ _)); exact BK430.out) Try.underlying27 rfl (by kernel_rfl)) rfl ?_
 exact ⟨_, _, by rfl, by (with_reducible repeat (first | apply Kd.R_alloc | apply Kd.R_drewN | apply Kd.R_drew)); exact Kd.R_mono (Kd.R_far (p := ⟨gb430, 2, none⟩) (Kd.R_far (p := ⟨gb430, 1, none⟩) (Kd.R_far (p := ⟨gb430, 0, none⟩) (Kd.R_types HO438.out BK430.out (by decide)) (fun _ hk => hk.2) (.bool t435)) (fun _ hk => hk.2) (.slice Ao11 t436.length co11)) (fun _ hk => hk.2) (.slice Ao13 t439.length co13)) (fun _ hk => hk.1.1), by (with_reducible repeat (first | apply Kd.R_alloc | apply Kd.R_drewN | apply Kd.R_drew)); exact Kd.R_mono (Kd.R_far (p := ⟨gb430, 2, none⟩) (Kd.R_far (p := ⟨gb430, 1, none⟩) (Kd.R_far (p := ⟨gb430, 0, none⟩) (Kd.R_types HO441.out BK430.out (by decide)) (fun _ hk => hk.2) (.bool t435)) (fun _ hk => hk.2) (.slice Ao11 t436.length co11)) (fun _ hk => hk.2) (.slice Ao13 t439.length co13)) (fun _ hk => hk.1.1), by repeat (first | (with_reducible first | exact HB.out | apply below_alloc | apply pw_below_drewN | apply below_drew1 | refine below_set ?_ GE429.out | refine below_set ?_ GE430.out) | exact HB.out)⟩

theorem rat_Neg.ev {m : Bool} {l1 l2 : List Int} {r : Rat} {K : Nat} (h : Qn.Is m l1 l2 r K) (hK1 : 1 ≤ K) (hK : K < 400000) : Ev (fun k => rat_Neg.f k m l1 l2) (Qn.qd (-r)) := by
 have M := rat_Make.ev (Zn.Is.zd (Zn.abs_neg h.num.lt)) h.ws h.len hK1 hK
 rw [← Rat.neg_mkRat, h.val] at M
 unfold rat_Neg.f
 exact Ev.bind (whole_Neg.ev h.num (by omega)) (Ev.bind M (Ev.now _))
/-! ### rat_Ceil: function 22 -/
def rat_Ceil.f (k : Nat) (a0_0 : Bool) (l0_1 : List Int) (l0_2 : List Int) : Option (Bool × List Int) := (rat_Neg.f k a0_0 l0_1 l0_2).bind fun bt444 => ((rat_Floor.f k bt444.1 bt444.2.1 bt444.2.2).bind fun bt451 => ((whole_Neg.f k bt451.1 bt451.2).bind fun bt455 => (some (bt455.1, bt455.2))))
set_option maxHeartbeats 8000000 in
set_option maxRecDepth 100000 in
theorem rat_Ceil.calls (k : Nat) (a0_0 : Bool) (A0_1 : Option Addr) (c0_1 : Nat) (l0_1 : List Int) (A0_2 : Option Addr) (c0_2 : Nat) (l0_2 : List Int) (r1 : Bool) (r2 : List Int) (w : World) (hr0_1 : Kd.C (Kd.int .u32) w A0_1 l0_1.length l0_1) (hc0_1 : l0_1.length ≤ c0_1) (hr0_2 : Kd.C (Kd.int .u32) w A0_2 l0_2.length l0_2) (hc0_2 : l0_2.length ≤ c0_2) (h : rat_Ceil.f k a0_0 l0_1 l0_2 = some (r1, r2)) :
  Calls Try.prog 22 #[.agg #[.bool a0_0, .slice A0_1 l0_1.length c0_1, .slice A0_2 l0_2.length c0_2]] w fun e w' => ∃ v1_ : Value, e = .returned (.agg #[.bool r1, v1_]) ∧ Kd.R (Kd.int .u32) 89 w' w.heap.size (fun _ => True) v1_ r2 ∧ Below w.heap.size w w' := by
 have hu27 := Try.underlying27
 have hu25 := Try.underlying25
 have HR0_1 := Aside0.mk hr0_1
 have HC0_1 := Aside0.mk hc0_1
 clear hr0_1 hc0_1
 have HR0_2 := Aside0.mk hr0_2
 have HC0_2 := Aside0.mk hc0_2
 clear hr0_2 hc0_2
 have HB := Aside0.mk (Below.refl w.heap.size w)
 have H : ((rat_Neg.f k a0_0 l0_1 l0_2).bind fun bt444 => ((rat_Floor.f k bt444.1 bt444.2.1 bt444.2.2).bind fun bt451 => ((whole_Neg.f k bt451.1 bt451.2).bind fun bt455 => (some (bt455.1, bt455.2))))) = some (r1, r2) := h
 clear h
 replace H := Option.bind_eq_some_iff.mp H
 obtain ⟨⟨t444, t445, t448⟩, A20, H⟩ := H
 try dsimp only at H
 have A2 := Aside0.mk A20
 clear A20
 replace H := Option.bind_eq_some_iff.mp H
 obtain ⟨⟨t451, t452⟩, A30, H⟩ := H
 try dsimp only at H
 have A3 := Aside0.mk A30
 clear A30
 replace H := Option.bind_eq_some_iff.mp H
 obtain ⟨⟨t455, t456⟩, A40, H⟩ := H
 replace H : (some (t455, t456)) = some (r1, r2) := H
 have A4 := Aside0.mk A40
 clear A40
 simp only [Option.some.injEq, Prod.mk.injEq] at H
 obtain ⟨rfl, rfl⟩ := H
 go_enter Try.func22, Try.ntmps22
 go_wp2_with (first | ((with_reducible refine gate_dst (N := 1) rfl ?_); refine Short.boxS_ (N := 1) (cs := #[.bool a0_0, .slice A0_1 l0_1.length c0_1, .slice A0_2 l0_2.length c0_2]) (t := 27) ?_; intro gb442 hg w5 hbox hb; have BK442 := Aside0.mk (hbox); have GW442 := Aside0.mk ((by rw [hg]; exact (below_size (by repeat (first | (with_reducible first | exact HB.out | apply below_alloc | apply pw_below_drewN | apply below_drew1) | exact HB.out))) : w.heap.size ≤ gb442)); have GE442 := Aside0.mk ((by rw [hg]; exact (below_size (by repeat (first | (with_reducible first | exact HB.out | apply below_alloc | apply pw_below_drewN | apply below_drew1) | exact HB.out))) : w.heap.size ≤ gb442)); replace HB := Aside0.mk (below_step (by repeat (first | (with_reducible first | exact HB.out | apply below_alloc | apply pw_below_drewN | apply below_drew1) | exact HB.out)) hb); clear hb hbox hg) | ((with_reducible refine gate_dst (N := 2) rfl ?_); refine Short.boxS_ (N := 2) (cs := #[.bool false, .slice none 0 0]) (t := 25) ?_; intro gb443 hg w6 hbox hb; have BK443 := Aside0.mk (hbox); have GW443 := Aside0.mk ((by rw [hg]; exact (below_size HB.out) : w.heap.size ≤ gb443)); have GE443 := Aside0.mk ((by rw [hg]; exact (below_size HB.out) : w.heap.size ≤ gb443)); replace HB := Aside0.mk (below_step HB.out hb); have NB442_443 := Short.ltA_ hg BK442; have NB443_442 := Short.gtA_ hg BK442; replace BK442 := Aside0.mk (blk_below BK442.out hb); clear hb hbox hg; have hnb7 := NB442_443.out; have hnc7 := NB443_442.out; have hcz8_0 : w6.cell? ⟨gb442, 0, none⟩ = some (.bool a0_0) := (blk_cell BK442.out 0).trans rfl; have hcz8_1 : w6.cell? ⟨gb442, 1, none⟩ = some (.slice A0_1 l0_1.length c0_1) := (blk_cell BK442.out 1).trans rfl; have hcz8_2 : w6.cell? ⟨gb442, 2, none⟩ = some (.slice A0_2 l0_2.length c0_2) := (blk_cell BK442.out 2).trans rfl; have hfz8_0 := blk_frozen BK442.out 0; have hfz8_1 := blk_frozen BK442.out 1; have hfz8_2 := blk_frozen BK442.out 2) | ((with_reducible refine gate_callee (f := 33) rfl ?_); refine Short.goesS_ (some 4) Try.func33 #[.agg #[.bool a0_0, .slice A0_1 l0_1.length c0_1, .slice A0_2 l0_2.length c0_2]] ?_; (with_reducible refine (rat_Neg.calls k a0_0 _ _ l0_1 _ _ l0_2 t444 t445 t448 _ (Kd.C_below HR0_1.out HB.out) HC0_1.out (Kd.C_below HR0_2.out HB.out) HC0_2.out A2.out).mono ?_); rintro e w9 ⟨v446, v449, rfl, ho0, ho1, hb⟩; refine ⟨_, rfl, ?_⟩; have HO447 := Aside0.mk (Kd.R_lower ho0 (below_size HB.out)); have HO450 := Aside0.mk (Kd.R_lower ho1 (below_size HB.out)); replace BK442 := Aside0.mk (blk_below BK442.out hb); replace BK443 := Aside0.mk (blk_below BK443.out hb); replace HB := Aside0.mk (below_step HB.out hb); (try clear hb); (try clear ho0); (try clear ho1); obtain ⟨Ao10, co10, eo10⟩ := Kd.R_slice HO447.out; subst eo10; obtain ⟨Ao11, co11, eo11⟩ := Kd.R_slice HO450.out; subst eo11) | ((with_reducible refine gate_callee (f := 21) rfl ?_); refine Short.goesS_ (some 5) Try.func21 #[.agg #[.bool t444, .slice Ao10 t445.length co10, .slice Ao11 t448.length co11]] ?_; (with_reducible refine (rat_Floor.calls k t444 _ _ t445 _ _ t448 t451 t452 _ ((Kd.R_reads' HO447.out).2.2) ((Kd.R_reads' HO447.out).2.1) ((Kd.R_reads' HO450.out).2.2) ((Kd.R_reads' HO450.out).2.1) A3.out).mono ?_); rintro e w12 ⟨v453, rfl, ho0, hb⟩; refine ⟨_, rfl, ?_⟩; have HO454 := Aside0.mk (Kd.R_lower (Kd.R_new' (Kd.R_new' ho0 (Kd.R_lt HO447.out)) (Kd.R_lt HO450.out)) (below_size HB.out)); replace HO447 := Aside0.mk (Kd.R_elder' HO447.out (Kd.R_base ho0) hb); replace HO450 := Aside0.mk (Kd.R_elder' HO450.out (Kd.R_base ho0) hb); replace BK442 := Aside0.mk (blk_below BK442.out hb); replace BK443 := Aside0.mk (blk_below BK443.out hb); replace HB := Aside0.mk (below_step HB.out hb); (try clear hb); (try clear ho0); obtain ⟨Ao13, co13, eo13⟩ := Kd.R_slice HO454.out; subst eo13) | ((with_reducible refine gate_callee (f := 61) rfl ?_); refine Short.goesS_ (some 6) Try.func61 #[.agg #[.bool t451, .slice Ao13 t452.length co13]] ?_; (with_reducible refine (whole_Neg.calls k t451 _ _ t452 t455 t456 _ ((Kd.R_reads' HO454.out).2.2) ((Kd.R_reads' HO454.out).2.1) A4.out).mono ?_); rintro e w14 ⟨v457, rfl, ho0, hb⟩; refine ⟨_, rfl, ?_⟩; have HO458 := Aside0.mk (Kd.R_lower (Kd.R_new' (Kd.R_new' (Kd.R_new' ho0 (Kd.R_lt HO447.out)) (Kd.R_lt HO450.out)) (Kd.R_lt HO454.out)) (below_size HB.out)); replace HO447 := Aside0.mk (Kd.R_elder' HO447.out (Kd.R_base ho0) hb); replace HO450 := Aside0.mk (Kd.R_elder' HO450.out (Kd.R_base ho0) hb); replace HO454 := Aside0.mk (Kd.R_elder' HO454.out (Kd.R_base ho0) hb); replace BK442 := Aside0.mk (blk_below BK442.out hb); replace BK443 := Aside0.mk (blk_below BK443.out hb); replace HB := Aside0.mk (below_step HB.out hb); (try clear hb); (try clear ho0); have hcz15_0 : w14.cell? ⟨gb443, 0, none⟩ = some (.bool false) := (blk_cell BK443.out 0).trans rfl; have hcz15_1 : w14.cell? ⟨gb443, 1, none⟩ = some (.slice none 0 0) := (blk_cell BK443.out 1).trans rfl; have hfz15_0 := blk_frozen BK443.out 0; have hfz15_1 := blk_frozen BK443.out 1; obtain ⟨Ao16, co16, eo16⟩ := Kd.R_slice HO458.out; subst eo16))
 refine bodyPost_ret (results_cell_row rfl _ _ gb443 25 #[.bool t455, .slice Ao16 t456.length co16] (0, 0) _ rfl (by (with_reducible repeat (first | refine blk_drewN ?_ _ | refine blk_drew ?_ | refine blk_alloc ?_ _)); refine blk_put (cs := #[.bool t455, .slice none 0 0]) ?_ 1 _ rfl; (with_reducible repeat (first | refine blk_drewN ?_ _ | refine blk_drew ?_ | refine blk_alloc ?_ _)); refine blk_put (cs := #[.bool false, .slice none 0 0]) ?_ 0 _ rfl; (with_reducible repeat (first | refine blk_drewN ?_ _ | refine blk_drew ?_ | refine blk_alloc ?_ _)); exact BK443.out) Try.underlying25 rfl (by kernel_rfl)) rfl ?_
 exact ⟨_, by rfl, by (with_reducible repeat (first | apply Kd.R_alloc | apply Kd.R_drewN | apply Kd.R_drew)); exact Kd.R_mono (Kd.R_far (p := ⟨gb443, 1, none⟩) (Kd.R_far (p := ⟨gb443, 0, none⟩) (Kd.R_types HO458.out BK443.out (by decide)) (fun _ hk => hk.2) (.bool t455)) (fun _ hk => hk.2) (.slice Ao16 t456.length co16)) (fun _ hk => trivial), by repeat (first | (with_reducible first | exact HB.out | apply below_alloc | apply pw_below_drewN | apply below_drew1 | refine below_set ?_ GE442.out | refine below_set ?_ GE443.out) | exact HB.out)⟩

theorem rat_Ceil.ev {m : Bool} {l1 l2 : List Int} {r : Rat} {K : Nat} (h : Qn.Is m l1 l2 r K) (hK1 : 1 ≤ K) (hK : K < 300000) : Ev (fun k => rat_Ceil.f k m l1 l2) (Zn.zd r.ceil) := by
 have S := (h.sm hK1).neg
 have N := whole_Neg.ev (Zn.Is.zd (rat_Floor.size S)) (by omega)
 rw [← Rat.ceil_eq_neg_floor_neg] at N
 unfold rat_Ceil.f
 exact Ev.bind (rat_Neg.ev h hK1 (by omega)) (Ev.bind (rat_Floor.ev (Qn.Is.qd S) hK1 hK) (Ev.bind N (Ev.now _)))
/-! ### rat_Sign: function 14 -/
def rat_Sign.f (k : Nat) (a0_0 : Bool) (l0_1 : List Int) (l0_2 : List Int) : Option (Int) := (whole_Sign.f k a0_0 l0_1).bind fun t460 => (some t460)
set_option maxHeartbeats 8000000 in
set_option maxRecDepth 100000 in
theorem rat_Sign.calls (k : Nat) (a0_0 : Bool) (A0_1 : Option Addr) (c0_1 : Nat) (l0_1 : List Int) (A0_2 : Option Addr) (c0_2 : Nat) (l0_2 : List Int) (r : Int) (w : World) (hr0_1 : Kd.C (Kd.int .u32) w A0_1 l0_1.length l0_1) (hc0_1 : l0_1.length ≤ c0_1) (hr0_2 : Kd.C (Kd.int .u32) w A0_2 l0_2.length l0_2) (hc0_2 : l0_2.length ≤ c0_2) (h : rat_Sign.f k a0_0 l0_1 l0_2 = some r) :
  Calls Try.prog 14 #[.agg #[.bool a0_0, .slice A0_1 l0_1.length c0_1, .slice A0_2 l0_2.length c0_2]] w fun e w' => e = .returned (.int .i64 r) ∧ Below w.heap.size w w' := by
 have hu27 := Try.underlying27
 have hu25 := Try.underlying25
 have HR0_1 := Aside0.mk hr0_1
 have HC0_1 := Aside0.mk hc0_1
 clear hr0_1 hc0_1
 have HR0_2 := Aside0.mk hr0_2
 have HC0_2 := Aside0.mk hc0_2
 clear hr0_2 hc0_2
 have HB := Aside0.mk (Below.refl w.heap.size w)
 have H : ((whole_Sign.f k a0_0 l0_1).bind fun t460 => (some t460)) = some r := h
 clear h
 replace H := Option.bind_eq_some_iff.mp H
 obtain ⟨t460, A20, H⟩ := H
 replace H : (some t460) = some r := H
 have A2 := Aside0.mk A20
 clear A20
 obtain rfl := Option.some.inj H
 go_enter Try.func14, Try.ntmps14
 go_wp2_with (first | ((with_reducible refine gate_dst (N := 1) rfl ?_); refine Short.boxS_ (N := 1) (cs := #[.bool a0_0, .slice A0_1 l0_1.length c0_1, .slice A0_2 l0_2.length c0_2]) (t := 27) ?_; intro gb459 hg w3 hbox hb; have BK459 := Aside0.mk (hbox); have GW459 := Aside0.mk ((by rw [hg]; exact (below_size (by repeat (first | (with_reducible first | exact HB.out | apply below_alloc | apply pw_below_drewN | apply below_drew1) | exact HB.out))) : w.heap.size ≤ gb459)); have GE459 := Aside0.mk ((by rw [hg]; exact (below_size (by repeat (first | (with_reducible first | exact HB.out | apply below_alloc | apply pw_below_drewN | apply below_drew1) | exact HB.out))) : w.heap.size ≤ gb459)); replace HB := Aside0.mk (below_step (by repeat (first | (with_reducible first | exact HB.out | apply below_alloc | apply pw_below_drewN | apply below_drew1) | exact HB.out)) hb); clear hb hbox hg; have hcz4_0 : w3.cell? ⟨gb459, 0, none⟩ = some (.bool a0_0) := (blk_cell BK459.out 0).trans rfl; have hcz4_1 : w3.cell? ⟨gb459, 1, none⟩ = some (.slice A0_1 l0_1.length c0_1) := (blk_cell BK459.out 1).trans rfl; have hcz4_2 : w3.cell? ⟨gb459, 2, none⟩ = some (.slice A0_2 l0_2.length c0_2) := (blk_cell BK459.out 2).trans rfl; have hfz4_0 := blk_frozen BK459.out 0; have hfz4_1 := blk_frozen BK459.out 1; have hfz4_2 := blk_frozen BK459.out 2) | ((with_reducible refine gate_callee (f := 49) rfl ?_); refine Short.goesS_ (some 5) Try.func49 #[.agg #[.bool a0_0, .slice A0_1 l0_1.length c0_1]] ?_; (with_reducible refine (whole_Sign.calls k a0_0 _ _ l0_1 t460 _ (Kd.C_below HR0_1.out HB.out) HC0_1.out A2.out).mono ?_); rintro e w5 ⟨rfl, hb⟩; refine ⟨_, rfl, ?_⟩; replace BK459 := Aside0.mk (blk_below BK459.out hb); replace HB := Aside0.mk (below_step HB.out hb); (try clear hb)))
 go_ret
 exact ⟨by rfl, by repeat (first | (with_reducible first | exact HB.out | apply below_alloc | apply pw_below_drewN | apply below_drew1 | refine below_set ?_ GE459.out) | exact HB.out)⟩

theorem rat_Sign.ev {m : Bool} {l1 l2 : List Int} {r : Rat} {K : Nat} (h : Qn.Is m l1 l2 r K) (hK : K < 400000) : Ev (fun k => rat_Sign.f k m l1 l2) r.num.sign := by
 have S := whole_Sign.ev h.num (by omega)
 have e := Qn.sign_num (Zn.zv m (Num.nv l1)) (Qn.dn (Num.nv l2)) (Qn.dn_ne _)
 rw [h.val] at e
 rw [e]
 unfold rat_Sign.f
 exact Ev.bind S (Ev.now _)
/-! ### rat_Mul: function 32 -/
def rat_Mul.f (k : Nat) (a0_0 : Bool) (l0_1 : List Int) (l0_2 : List Int) (a1_0 : Bool) (l1_1 : List Int) (l1_2 : List Int) : Option (Bool × List Int × List Int) := (whole_Mul.f k a0_0 l0_1 a1_0 l1_1).bind fun bt464 => ((rat_den.f k a0_0 l0_1 l0_2).bind fun t468 => ((rat_den.f k a1_0 l1_1 l1_2).bind fun t471 => ((nat_Mul.f k t468 t471).bind fun t474 => ((rat_Make.f k bt464.1 bt464.2 t474).bind fun bt477 => (some (bt477.1, bt477.2.1, bt477.2.2))))))
def rat_Mul.T1 : Bool × List (List Nat × List Nat) := (true, [([], []), ([0], [0]), ([], []), ([2], [2]), ([1, 3], [1, 3]), ([], []), ([5, 4], [5]), ([], []), ([7, 6], [7]), ([6, 8, 8], [6, 8]), ([4, 9, 9], [4, 9]), ([10, 10, 0, 1, 2, 3, 4, 5, 6, 7, 8, 9, 10], [10])])
def rat_Mul.B1 : List Nat := [0, 1, 0, 4, 15, 0, 63, 0, 255, 511, 1023, 2047]
theorem rat_Mul.tab1 : rtab .any (opsOf Try.f32 1) = rat_Mul.T1 := by kernel_rfl
theorem rat_Mul.bits1 : waitsOk rat_Mul.T1.2 rat_Mul.B1 = true := by kernel_rfl
set_option maxHeartbeats 8000000 in
set_option maxRecDepth 100000 in
theorem rat_Mul.calls (k : Nat) (a0_0 : Bool) (A0_1 : Option Addr) (c0_1 : Nat) (l0_1 : List Int) (A0_2 : Option Addr) (c0_2 : Nat) (l0_2 : List Int) (a1_0 : Bool) (A1_1 : Option Addr) (c1_1 : Nat) (l1_1 : List Int) (A1_2 : Option Addr) (c1_2 : Nat) (l1_2 : List Int) (r1 : Bool) (r2 : List Int) (r3 : List Int) (w : World) (hr0_1 : Kd.C (Kd.int .u32) w A0_1 l0_1.length l0_1) (hc0_1 : l0_1.length ≤ c0_1) (hr0_2 : Kd.C (Kd.int .u32) w A0_2 l0_2.length l0_2) (hc0_2 : l0_2.length ≤ c0_2) (hr1_1 : Kd.C (Kd.int .u32) w A1_1 l1_1.length l1_1) (hc1_1 : l1_1.length ≤ c1_1) (hr1_2 : Kd.C (Kd.int .u32) w A1_2 l1_2.length l1_2) (hc1_2 : l1_2.length ≤ c1_2) (h : rat_Mul.f k a0_0 l0_1 l0_2 a1_0 l1_1 l1_2 = some (r1, r2, r3)) :
  Calls Try.prog 32 #[.agg #[.bool a0_0, .slice A0_1 l0_1.length c0_1, .slice A0_2 l0_2.length c0_2], .agg #[.bool a1_0, .slice A1_1 l1_1.length c1_1, .slice A1_2 l1_2.length c1_2]] w fun e w' => ∃ v1_ v2_ : Value, e = .returned (.agg #[.bool r1, v1_, v2_]) ∧ Kd.R (Kd.int .u32) 89 w' w.heap.size (fun k_ => some k_ ≠ (v2_ : Value).ownBlock) v1_ r2 ∧ Kd.R (Kd.int .u32) 89 w' w.heap.size (fun k_ => some k_ ≠ (v1_ : Value).ownBlock) v2_ r3 ∧ Below w.heap.size w w' := by
 have hu27 := Try.underlying27
 have hu25 := Try.underlying25
 have HR0_1 := Aside0.mk hr0_1
 have HC0_1 := Aside0.mk hc0_1
 clear hr0_1 hc0_1
 have HR0_2 := Aside0.mk hr0_2
 have HC0_2 := Aside0.mk hc0_2
 clear hr0_2 hc0_2
 have HR1_1 := Aside0.mk hr1_1
 have HC1_1 := Aside0.mk hc1_1
 clear hr1_1 hc1_1
 have HR1_2 := Aside0.mk hr1_2
 have HC1_2 := Aside0.mk hc1_2
 clear hr1_2 hc1_2
 have HB := Aside0.mk (Below.refl w.heap.size w)
 have H : ((whole_Mul.f k a0_0 l0_1 a1_0 l1_1).bind fun bt464 => ((rat_den.f k a0_0 l0_1 l0_2).bind fun t468 => ((rat_den.f k a1_0 l1_1 l1_2).bind fun t471 => ((nat_Mul.f k t468 t471).bind fun t474 => ((rat_Make.f k bt464.1 bt464.2 t474).bind fun bt477 => (some (bt477.1, bt477.2.1, bt477.2.2))))))) = some (r1, r2, r3) := h
 clear h
 replace H := Option.bind_eq_some_iff.mp H
 obtain ⟨⟨t464, t465⟩, A30, H⟩ := H
 try dsimp only at H
 have A3 := Aside0.mk A30
 clear A30
 replace H := Option.bind_eq_some_iff.mp H
 obtain ⟨t468, A40, H⟩ := H
 try dsimp only at H
 have A4 := Aside0.mk A40
 clear A40
 replace H := Option.bind_eq_some_iff.mp H
 obtain ⟨t471, A50, H⟩ := H
 try dsimp only at H
 have A5 := Aside0.mk A50
 clear A50
 replace H := Option.bind_eq_some_iff.mp H
 obtain ⟨t474, A60, H⟩ := H
 try dsimp only at H
 have A6 := Aside0.mk A60
 clear A60
 replace H := Option.bind_eq_some_iff.mp H
 obtain ⟨⟨t477, t478, t481⟩, A70, H⟩ := H
 replace H : (some (t477, t478, t481)) = some (r1, r2, r3) := H
 have A7 := Aside0.mk A70
 clear A70
 simp only [Option.some.injEq, Prod.mk.injEq] at H
 obtain ⟨rfl, rfl, rfl⟩ := H
 go_enter Try.func32, Try.ntmps32
 try go_wp2_with (first | ((with_reducible refine gate_dst (N := 2) rfl ?_); refine Short.boxS_ (N := 2) (cs := #[.bool a0_0, .slice A0_1 l0_1.length c0_1, .slice A0_2 l0_2.length c0_2]) (t := 27) ?_; intro gb461 hg w8 hbox hb; have BK461 := Aside0.mk (hbox); have GW461 := Aside0.mk ((by rw [hg]; exact (below_size (by repeat (first | (with_reducible first | exact HB.out | apply below_alloc | apply pw_below_drewN | apply below_drew1) | exact HB.out))) : w.heap.size ≤ gb461)); have GE461 := Aside0.mk ((by rw [hg]; exact (below_size (by repeat (first | (with_reducible first | exact HB.out | apply below_alloc | apply pw_below_drewN | apply below_drew1) | exact HB.out))) : w.heap.size ≤ gb461)); replace HB := Aside0.mk (below_step (by repeat (first | (with_reducible first | exact HB.out | apply below_alloc | apply pw_below_drewN | apply below_drew1) | exact HB.out)) hb); clear hb hbox hg) | ((with_reducible refine gate_dst (N := 3) rfl ?_); refine Short.boxS_ (N := 3) (cs := #[.bool a1_0, .slice A1_1 l1_1.length c1_1, .slice A1_2 l1_2.length c1_2]) (t := 27) ?_; intro gb462 hg w9 hbox hb; have BK462 := Aside0.mk (hbox); have GW462 := Aside0.mk ((by rw [hg]; exact (below_size HB.out) : w.heap.size ≤ gb462)); have GE462 := Aside0.mk ((by rw [hg]; exact (below_size HB.out) : w.heap.size ≤ gb462)); replace HB := Aside0.mk (below_step HB.out hb); have NB461_462 := Short.ltA_ hg BK461; have NB462_461 := Short.gtA_ hg BK461; replace BK461 := Aside0.mk (blk_below BK461.out hb); clear hb hbox hg) | ((with_reducible refine gate_dst (N := 4) rfl ?_); refine Short.boxS_ (N := 4) (cs := #[.bool false, .slice none 0 0, .slice none 0 0]) (t := 27) ?_; intro gb463 hg w10 hbox hb; have BK463 := Aside0.mk (hbox); have GW463 := Aside0.mk ((by rw [hg]; exact (below_size HB.out) : w.heap.size ≤ gb463)); have GE463 := Aside0.mk ((by rw [hg]; exact (below_size HB.out) : w.heap.size ≤ gb463)); replace HB := Aside0.mk (below_step HB.out hb); have NB461_463 := Short.ltA_ hg BK461; have NB463_461 := Short.gtA_ hg BK461; replace BK461 := Aside0.mk (blk_below BK461.out hb); have NB462_463 := Short.ltA_ hg BK462; have NB463_462 := Short.gtA_ hg BK462; replace BK462 := Aside0.mk (blk_below BK462.out hb); clear hb hbox hg))
 replace BK461 := Aside0.mk (blk_drew BK461.out)
 replace BK462 := Aside0.mk (blk_drew BK462.out)
 replace BK463 := Aside0.mk (blk_drew BK463.out)
 replace HB := Aside0.mk (below_drew1 HB.out)
 refine start_ (n := 12) (S := fun w' => w'.cell? ⟨gb461, 0, none⟩ = some (.bool a0_0) ∧ w'.cell? ⟨gb461, 1, none⟩ = some (.slice A0_1 l0_1.length c0_1) ∧ w'.cell? ⟨gb461, 2, none⟩ = some (.slice A0_2 l0_2.length c0_2) ∧ w'.cell? ⟨gb462, 0, none⟩ = some (.bool a1_0) ∧ w'.cell? ⟨gb462, 1, none⟩ = some (.slice A1_1 l1_1.length c1_1) ∧ w'.cell? ⟨gb462, 2, none⟩ = some (.slice A1_2 l1_2.length c1_2)) (ds := []) #[false, false, false, false, false, false, false, false, false, false, false, false] (by kernel_rfl) rfl rfl ⟨(blk_cell BK461.out 0).trans rfl, (blk_cell BK461.out 1).trans rfl, (blk_cell BK461.out 2).trans rfl, (blk_cell BK462.out 0).trans rfl, (blk_cell BK462.out 1).trans rfl, (blk_cell BK462.out 2).trans rfl⟩ (fun hHeld => ?_); refine with_tabW rat_Mul.tab1 rat_Mul.bits1 (fun HT_ HW_ => ?_)
 generalize w10.drew = w11 at BK461 BK462 BK463 HB hHeld ⊢
 refine Short.pureS_ (i := 0) (N := some 5) #[true, false, false, false, false, false, false, false, false, false, false, false] (any_of HT_.out (by kernel_rfl)) ?_
 refine Short.pureS_ (i := 2) (N := some 7) #[true, false, true, false, false, false, false, false, false, false, false, false] (any_of HT_.out (by kernel_rfl)) ?_
 refine Short.takeS_ (i := 1) (N := some 6) #[true, true, true, false, false, false, false, false, false, false, false, false] (take_ofW HT_.out HW_.out (by kernel_rfl)) hHeld ?_
 refine Short.takeS_ (i := 3) (N := some 8) #[true, true, true, true, false, false, false, false, false, false, false, false] (take_ofW HT_.out HW_.out (by kernel_rfl)) hHeld ?_
 refine Short.takeS_ (i := 5) (N := some 10) #[true, true, true, true, false, true, false, false, false, false, false, false] (take_ofW HT_.out HW_.out (by kernel_rfl)) hHeld ?_
 refine Short.takeS_ (i := 7) (N := some 12) #[true, true, true, true, false, true, false, true, false, false, false, false] (take_ofW HT_.out HW_.out (by kernel_rfl)) hHeld ?_
 refine one_ (i := 4) (N := some 9) #[true, true, true, true, true, true, false, true, false, false, false, false] rfl rfl (one_of HT_.out (by kernel_rfl)) (by decide) (fun K hK => ?_)
 refine Short.goesD_ Try.func67 #[.agg #[.bool a0_0, .slice A0_1 l0_1.length c0_1], .agg #[.bool a1_0, .slice A1_1 l1_1.length c1_1]] ?_
 with_reducible refine (whole_Mul.calls k a0_0 _ _ l0_1 a1_0 _ _ l1_1 t464 t465 _ (Kd.C_below HR0_1.out HB.out) HC0_1.out (Kd.C_below HR1_1.out HB.out) HC1_1.out A3.out).mono ?_
 rintro e w12 ⟨v466, rfl, ho0, hb⟩
 refine ⟨_, rfl, ?_⟩
 have HO467 := Aside0.mk (Kd.R_lower ho0 (below_size HB.out))
 replace BK461 := Aside0.mk (blk_below BK461.out hb)
 replace BK462 := Aside0.mk (blk_below BK462.out hb)
 replace BK463 := Aside0.mk (blk_below BK463.out hb)
 replace HB := Aside0.mk (below_step HB.out hb)
 (try clear hb)
 (try clear ho0)
 refine hK.out _ _ ⟨(blk_cell BK461.out 0).trans rfl, (blk_cell BK461.out 1).trans rfl, (blk_cell BK461.out 2).trans rfl, (blk_cell BK462.out 0).trans rfl, (blk_cell BK462.out 1).trans rfl, (blk_cell BK462.out 2).trans rfl⟩ (fun hHeld => ?_)
 clear hK K
 refine Short.normS_ ?_
 refine one_ (i := 6) (N := some 11) #[true, true, true, true, true, true, true, true, false, false, false, false] rfl rfl (one_of HT_.out (by kernel_rfl)) (by decide) (fun K hK => ?_)
 refine Short.goesD_ Try.func46 #[.agg #[.bool a0_0, .slice A0_1 l0_1.length c0_1, .slice A0_2 l0_2.length c0_2]] ?_
 with_reducible refine (rat_den.calls k a0_0 _ _ l0_1 (fun k_ => k_ < w.heap.size) _ _ l0_2 t468 _ (Kd.C_below HR0_1.out HB.out) HC0_1.out ?side3 A4.out).mono ?_
 (case side3 => exact Kd.V_mk HC0_2.out (Kd.F_below (Kd.C_F (Kd.heap_int .u32) HR0_2.out) HB.out))
 rintro e w13 ⟨v469, rfl, ho0, hb⟩
 refine ⟨_, rfl, ?_⟩
 have HO470 := Aside0.mk (Kd.V_lower (Kd.V_mono (ok' := fun k_ => some k_ ≠ (v466 : Value).ownBlock ∧ k_ ≠ gb461 ∧ k_ ≠ gb462 ∧ k_ ≠ gb463) ho0 (fun k_ hk_ => ⟨Or.elim hk_ (fun hs_ => fun e_ => Nat.not_le.2 hs_ (Kd.R_base HO467.out k_ e_.symm)) (fun hn_ => (Kd.fresh' (Kd.R_lt HO467.out) k_ hn_)), Or.elim hk_ (fun hs_ => fun e_ => Nat.not_le.2 hs_ (by rw [e_]; exact GW461.out)) (fun hn_ => (Kd.freshB (g := gb461) (o := .cells #[.bool a0_0, .slice A0_1 l0_1.length c0_1, .slice A0_2 l0_2.length c0_2] 27 (0, 0)) BK461.out k_ hn_)), Or.elim hk_ (fun hs_ => fun e_ => Nat.not_le.2 hs_ (by rw [e_]; exact GW462.out)) (fun hn_ => (Kd.freshB (g := gb462) (o := .cells #[.bool a1_0, .slice A1_1 l1_1.length c1_1, .slice A1_2 l1_2.length c1_2] 27 (0, 0)) BK462.out k_ hn_)), Or.elim hk_ (fun hs_ => fun e_ => Nat.not_le.2 hs_ (by rw [e_]; exact GW463.out)) (fun hn_ => (Kd.freshB (g := gb463) (o := .cells #[.bool false, .slice none 0 0, .slice none 0 0] 27 (0, 0)) BK463.out k_ hn_))⟩)) (below_size HB.out))
 replace HO467 := Aside0.mk (Kd.R_below HO467.out hb)
 replace BK461 := Aside0.mk (blk_below BK461.out hb)
 replace BK462 := Aside0.mk (blk_below BK462.out hb)
 replace BK463 := Aside0.mk (blk_below BK463.out hb)
 replace HB := Aside0.mk (below_step HB.out hb)
 (try clear hb)
 (try clear ho0)
 refine hK.out _ _ ⟨(blk_cell BK461.out 0).trans rfl, (blk_cell BK461.out 1).trans rfl, (blk_cell BK461.out 2).trans rfl, (blk_cell BK462.out 0).trans rfl, (blk_cell BK462.out 1).trans rfl, (blk_cell BK462.out 2).trans rfl⟩ (fun hHeld => ?_)
 clear hK K
 refine Short.normS_ ?_
 refine one_ (i := 8) (N := some 13) #[true, true, true, true, true, true, true, true, true, false, false, false] rfl rfl (one_of HT_.out (by kernel_rfl)) (by decide) (fun K hK => ?_)
 refine Short.goesD_ Try.func46 #[.agg #[.bool a1_0, .slice A1_1 l1_1.length c1_1, .slice A1_2 l1_2.length c1_2]] ?_
 with_reducible refine (rat_den.calls k a1_0 _ _ l1_1 (fun k_ => k_ < w.heap.size) _ _ l1_2 t471 _ (Kd.C_below HR1_1.out HB.out) HC1_1.out ?side3 A5.out).mono ?_
 (case side3 => exact Kd.V_mk HC1_2.out (Kd.F_below (Kd.C_F (Kd.heap_int .u32) HR1_2.out) HB.out))
 rintro e w14 ⟨v472, rfl, ho0, hb⟩
 refine ⟨_, rfl, ?_⟩
 replace HO470 := Aside0.mk (Kd.V_below HO470.out hb)
 have HO473 := Aside0.mk (Kd.V_lower (Kd.V_mono (ok' := fun k_ => some k_ ≠ (v466 : Value).ownBlock ∧ k_ ≠ gb461 ∧ k_ ≠ gb462 ∧ k_ ≠ gb463) ho0 (fun k_ hk_ => ⟨Or.elim hk_ (fun hs_ => fun e_ => Nat.not_le.2 hs_ (Kd.R_base HO467.out k_ e_.symm)) (fun hn_ => (Kd.fresh' (Kd.R_lt HO467.out) k_ hn_)), Or.elim hk_ (fun hs_ => fun e_ => Nat.not_le.2 hs_ (by rw [e_]; exact GW461.out)) (fun hn_ => (Kd.freshB (g := gb461) (o := .cells #[.bool a0_0, .slice A0_1 l0_1.length c0_1, .slice A0_2 l0_2.length c0_2] 27 (0, 0)) BK461.out k_ hn_)), Or.elim hk_ (fun hs_ => fun e_ => Nat.not_le.2 hs_ (by rw [e_]; exact GW462.out)) (fun hn_ => (Kd.freshB (g := gb462) (o := .cells #[.bool a1_0, .slice A1_1 l1_1.length c1_1, .slice A1_2 l1_2.length c1_2] 27 (0, 0)) BK462.out k_ hn_)), Or.elim hk_ (fun hs_ => fun e_ => Nat.not_le.2 hs_ (by rw [e_]; exact GW463.out)) (fun hn_ => (Kd.freshB (g := gb463) (o := .cells #[.bool false, .slice none 0 0, .slice none 0 0] 27 (0, 0)) BK463.out k_ hn_))⟩)) (below_size HB.out))
 replace HO467 := Aside0.mk (Kd.R_below HO467.out hb)
 replace BK461 := Aside0.mk (blk_below BK461.out hb)
 replace BK462 := Aside0.mk (blk_below BK462.out hb)
 replace BK463 := Aside0.mk (blk_below BK463.out hb)
 replace HB := Aside0.mk (below_step HB.out hb)
 (try clear hb)
 (try clear ho0)
 obtain ⟨Ao15, co15, eo15⟩ := Kd.V_slice HO470.out
 (first | subst eo15 | (injection eo15 with f1_ f2_ f3_; have f4_ := f1_.symm; have f5_ := f3_.symm; clear f1_ f2_ f3_; subst f4_; subst f5_))
 obtain ⟨Ao16, co16, eo16⟩ := Kd.V_slice HO473.out
 (first | subst eo16 | (injection eo16 with f1_ f2_ f3_; have f4_ := f1_.symm; have f5_ := f3_.symm; clear f1_ f2_ f3_; subst f4_; subst f5_))
 refine hK.out _ _ ⟨(blk_cell BK461.out 0).trans rfl, (blk_cell BK461.out 1).trans rfl, (blk_cell BK461.out 2).trans rfl, (blk_cell BK462.out 0).trans rfl, (blk_cell BK462.out 1).trans rfl, (blk_cell BK462.out 2).trans rfl⟩ (fun hHeld => ?_)
 clear hK K
 refine Short.normS_ ?_
 refine one_ (i := 9) (N := some 14) #[true, true, true, true, true, true, true, true, true, true, false, false] rfl rfl (one_of HT_.out (by kernel_rfl)) (by decide) (fun K hK => ?_)
 refine Short.goesD_ Try.func66 #[.slice Ao15 t468.length co15, .slice Ao16 t471.length co16] ?_
 with_reducible refine (nat_Mul.calls k _ _ t468 _ _ t471 t474 _ ((Kd.V_reads' HO470.out).2.2) ((Kd.V_reads' HO470.out).2.1) ((Kd.V_reads' HO473.out).2.2) ((Kd.V_reads' HO473.out).2.1) A6.out).mono ?_
 rintro e w17 ⟨v475, rfl, ho0, hb⟩
 refine ⟨_, rfl, ?_⟩
 replace HO470 := Aside0.mk (Kd.V_elder' HO470.out (Kd.R_base ho0) hb)
 replace HO473 := Aside0.mk (Kd.V_elder' HO473.out (Kd.R_base ho0) hb)
 have HO476 := Aside0.mk (Kd.R_lower (Kd.R_new' ho0 (Kd.R_lt HO467.out)) (below_size HB.out))
 replace HO467 := Aside0.mk (Kd.R_elder' HO467.out (Kd.R_base ho0) hb)
 replace BK461 := Aside0.mk (blk_below BK461.out hb)
 replace BK462 := Aside0.mk (blk_below BK462.out hb)
 replace BK463 := Aside0.mk (blk_below BK463.out hb)
 replace HB := Aside0.mk (below_step HB.out hb)
 (try clear hb)
 (try clear ho0)
 obtain ⟨Ao18, co18, eo18⟩ := Kd.R_slice HO467.out
 (first | subst eo18 | (injection eo18 with f1_ f2_ f3_; have f4_ := f1_.symm; have f5_ := f3_.symm; clear f1_ f2_ f3_; subst f4_; subst f5_))
 obtain ⟨Ao19, co19, eo19⟩ := Kd.R_slice HO476.out
 (first | subst eo19 | (injection eo19 with f1_ f2_ f3_; have f4_ := f1_.symm; have f5_ := f3_.symm; clear f1_ f2_ f3_; subst f4_; subst f5_))
 refine hK.out _ _ ⟨(blk_cell BK461.out 0).trans rfl, (blk_cell BK461.out 1).trans rfl, (blk_cell BK461.out 2).trans rfl, (blk_cell BK462.out 0).trans rfl, (blk_cell BK462.out 1).trans rfl, (blk_cell BK462.out 2).trans rfl⟩ (fun hHeld => ?_)
 clear hK K
 refine Short.normS_ ?_
 refine one_ (i := 10) (N := some 15) #[true, true, true, true, true, true, true, true, true, true, true, false] rfl rfl (one_of HT_.out (by kernel_rfl)) (by decide) (fun K hK => ?_)
 refine Short.goesD_ Try.func36 #[.agg #[.bool t464, .slice Ao18 t465.length co18], .slice Ao19 t474.length co19] ?_
 with_reducible refine (rat_Make.calls k t464 _ _ t465 _ _ t474 t477 t478 t481 _ ((Kd.R_reads' HO467.out).2.2) ((Kd.R_reads' HO467.out).2.1) ((Kd.R_reads' HO476.out).2.2) ((Kd.R_reads' HO476.out).2.1) A7.out).mono ?_
 rintro e w20 ⟨v479, v482, rfl, ho0, ho1, hb⟩
 refine ⟨_, rfl, ?_⟩
 replace HO470 := Aside0.mk (Kd.V_mono (Kd.V_told (Kd.V_told (Kd.V_old HO470.out hb) (Kd.R_base ho0)) (Kd.R_base ho1)) (fun _ h_ => h_.1))
 replace HO473 := Aside0.mk (Kd.V_mono (Kd.V_told (Kd.V_told (Kd.V_old HO473.out hb) (Kd.R_base ho0)) (Kd.R_base ho1)) (fun _ h_ => h_.1))
 have HO480 := Aside0.mk (Kd.R_lower (Kd.R_new' (Kd.R_new' ho0 (Kd.R_lt HO467.out)) (Kd.R_lt HO476.out)) (below_size HB.out))
 have HO483 := Aside0.mk (Kd.R_lower (Kd.R_new' (Kd.R_new' ho1 (Kd.R_lt HO467.out)) (Kd.R_lt HO476.out)) (below_size HB.out))
 replace HO467 := Aside0.mk (Kd.R_mono (Kd.R_told (Kd.R_told (Kd.R_old HO467.out hb) (Kd.R_base ho0)) (Kd.R_base ho1)) (fun _ h_ => h_.1))
 replace HO476 := Aside0.mk (Kd.R_mono (Kd.R_told (Kd.R_told (Kd.R_old HO476.out hb) (Kd.R_base ho0)) (Kd.R_base ho1)) (fun _ h_ => h_.1))
 replace BK461 := Aside0.mk (blk_below BK461.out hb)
 replace BK462 := Aside0.mk (blk_below BK462.out hb)
 replace BK463 := Aside0.mk (blk_below BK463.out hb)
 replace HB := Aside0.mk (below_step HB.out hb)
 (try clear hb)
 (try clear ho0)
 (try clear ho1)
 obtain ⟨Ao22, co22, eo22⟩ := Kd.R_slice HO480.out
 (first | subst eo22 | (injection eo22 with f1_ f2_ f3_; have f4_ := f1_.symm; have f5_ := f3_.symm; clear f1_ f2_ f3_; subst f4_; subst f5_))
 obtain ⟨Ao24, co24, eo24⟩ := Kd.R_slice HO483.out
 (first | subst eo24 | (injection eo24 with f1_ f2_ f3_; have f4_ := f1_.symm; have f5_ := f3_.symm; clear f1_ f2_ f3_; subst f4_; subst f5_))
 refine hK.out _ _ ⟨(blk_cell BK461.out 0).trans rfl, (blk_cell BK461.out 1).trans rfl, (blk_cell BK461.out 2).trans rfl, (blk_cell BK462.out 0).trans rfl, (blk_cell BK462.out 1).trans rfl, (blk_cell BK462.out 2).trans rfl⟩ (fun hHeld => ?_)
 clear hK K
 refine Short.normS_ ?_
 refine one_ (i := 11) (N := none) #[true, true, true, true, true, true, true, true, true, true, true, true] rfl rfl (one_of HT_.out (by kernel_rfl)) (by decide) (fun K hK => ?_)
 have hs21 : w20.cell? ⟨gb463, 0, none⟩ = some (.bool false) := (blk_cell BK463.out 0).trans rfl
 have hfs21 := blk_frozen BK463.out 0
 have hns21_0 := NB461_463.out
 have hns21_1 := NB462_463.out
 have hms21_0 := NB463_461.out
 have hms21_1 := NB463_462.out
 have hs23 : w20.cell? ⟨gb463, 1, none⟩ = some (.slice none 0 0) := (blk_cell BK463.out 1).trans rfl
 have hfs23 := blk_frozen BK463.out 1
 have hns23_0 := NB461_463.out
 have hns23_1 := NB462_463.out
 have hms23_0 := NB463_461.out
 have hms23_1 := NB463_462.out
 have hs25 : w20.cell? ⟨gb463, 2, none⟩ = some (.slice none 0 0) := (blk_cell BK463.out 2).trans rfl
 have hfs25 := blk_frozen BK463.out 2
 have hns25_0 := NB461_463.out
 have hns25_1 := NB462_463.out
 have hms25_0 := NB463_461.out
 have hms25_1 := NB463_462.out
 refine skip_ (w1 := ?_) (by rfl) rfl ?_ ?_
 rotate_left
 ·go_simp
  rfl
 refine hK.out _ _ ⟨((cell_far (p := ⟨gb463, _, none⟩) NB461_463.out _).trans (((cell_far (p := ⟨gb463, _, none⟩) NB461_463.out _).trans (((cell_far (p := ⟨gb463, _, none⟩) NB461_463.out _).trans (hHeld.1)))))), ((cell_far (p := ⟨gb463, _, none⟩) NB461_463.out _).trans (((cell_far (p := ⟨gb463, _, none⟩) NB461_463.out _).trans (((cell_far (p := ⟨gb463, _, none⟩) NB461_463.out _).trans (hHeld.2.1)))))), ((cell_far (p := ⟨gb463, _, none⟩) NB461_463.out _).trans (((cell_far (p := ⟨gb463, _, none⟩) NB461_463.out _).trans (((cell_far (p := ⟨gb463, _, none⟩) NB461_463.out _).trans (hHeld.2.2.1)))))), ((cell_far (p := ⟨gb463, _, none⟩) NB462_463.out _).trans (((cell_far (p := ⟨gb463, _, none⟩) NB462_463.out _).trans (((cell_far (p := ⟨gb463, _, none⟩) NB462_463.out _).trans (hHeld.2.2.2.1)))))), ((cell_far (p := ⟨gb463, _, none⟩) NB462_463.out _).trans (((cell_far (p := ⟨gb463, _, none⟩) NB462_463.out _).trans (((cell_far (p := ⟨gb463, _, none⟩) NB462_463.out _).trans (hHeld.2.2.2.2.1)))))), ((cell_far (p := ⟨gb463, _, none⟩) NB462_463.out _).trans (((cell_far (p := ⟨gb463, _, none⟩) NB462_463.out _).trans (((cell_far (p := ⟨gb463, _, none⟩) NB462_463.out _).trans (hHeld.2.2.2.2.2))))))⟩ (fun hHeld => ?_)
 clear hK K
 refine done_ (done_of HT_.out (by kernel_rfl)) ?_
 try go_wp2
 refine bodyPost_ret (results_cell_row rfl _ _ gb463 27 #[.bool t477, .slice Ao22 t478.length co22, .slice Ao24 t481.length co24] (0, 0) _ rfl (by (with_reducible repeat (first | refine blk_drewN ?_ _ | refine blk_drew ?_ | refine blk_alloc ?_ _)); refine blk_put (cs := #[.bool t477, .slice Ao22 t478.length co22, .slice none 0 0]) ?_ 2 _ rfl; (with_reducible repeat (first | refine blk_drewN ?_ _ | refine blk_drew ?_ | refine blk_alloc ?_ _)); refine blk_put (cs := #[.bool t477, .slice none 0 0, .slice none 0 0]) ?_ 1 _ rfl; (with_reducible repeat (first | refine blk_drewN ?_ _ | refine blk_drew ?_ | refine blk_alloc ?_ _)); refine blk_put (cs := #[.bool false, .slice none 0 0, .slice none 0 0]) ?_ 0 _ rfl; (with_reducible repeat (first | refine blk_drewN ?_ _ | refine blk_drew ?_ | refine blk_alloc ?_ _)); exact BK463.out) Try.underlying27 rfl (by kernel_rfl)) rfl ?_
 exact ⟨_, _, by rfl, by (with_reducible repeat (first | apply Kd.R_alloc | apply Kd.R_drewN | apply Kd.R_drew)); exact Kd.R_mono (Kd.R_far (p := ⟨gb463, 2, none⟩) (Kd.R_far (p := ⟨gb463, 1, none⟩) (Kd.R_far (p := ⟨gb463, 0, none⟩) (Kd.R_types HO480.out BK463.out (by decide)) (fun _ hk => hk.2) (.bool t477)) (fun _ hk => hk.2) (.slice Ao22 t478.length co22)) (fun _ hk => hk.2) (.slice Ao24 t481.length co24)) (fun _ hk => hk.1.1.1), by (with_reducible repeat (first | apply Kd.R_alloc | apply Kd.R_drewN | apply Kd.R_drew)); exact Kd.R_mono (Kd.R_far (p := ⟨gb463, 2, none⟩) (Kd.R_far (p := ⟨gb463, 1, none⟩) (Kd.R_far (p := ⟨gb463, 0, none⟩) (Kd.R_types HO483.out BK463.out (by decide)) (fun _ hk => hk.2) (.bool t477)) (fun _ hk => hk.2) (.slice Ao22 t478.length co22)) (fun _ hk => hk.2) (.slice Ao24 t481.length co24)) (fun _ hk => hk.1.1.1), by repeat (first | (with_reducible first | exact HB.out | apply below_alloc | apply pw_below_drewN | apply below_drew1 | refine below_set ?_ GE461.out | refine below_set ?_ GE462.out | refine below_set ?_ GE463.out) | exact HB.out)⟩

theorem rat_Mul.ev {m m' : Bool} {l1 l2 k1 k2 : List Int} {a b : Rat} {K J : Nat} (ha : Qn.Is m l1 l2 a K) (hb : Qn.Is m' k1 k2 b J) (hK1 : 1 ≤ K) (hJ1 : 1 ≤ J) (hK : K + J < 400000) : Ev (fun k => rat_Mul.f k m l1 l2 m' k1 k2) (Qn.qd (a * b)) := by
 have da := Qn.dn_lt ha.ws ha.len hK1
 have db := Qn.dn_lt hb.ws hb.len hJ1
 have la := ha.len
 have lb := hb.len
 have La := Qn.len_dl la hK1
 have Lb := Qn.len_dl lb hJ1
 have P := nat_Mul.ev (Num.okw_of (l := Qn.dl l2) (by omega) (Qn.ws_dl ha.ws)) (Num.okw_of (l := Qn.dl k2) (by omega) (Qn.ws_dl hb.ws))
 rw [Qn.nv_dl, Qn.nv_dl] at P
 have M := rat_Make.ev (Zn.Is.zd (Zn.abs_mul ha.num.lt hb.num.lt)) (Num.Ws_nd (Qn.dn (Num.nv l2) * Qn.dn (Num.nv k2))) (Num.nd_length_le (Num.mul_lt da db)) (by omega) hK
 rw [Num.nv_nd, Qn.dn_self (Nat.mul_ne_zero (Qn.dn_ne _) (Qn.dn_ne _)), ← Rat.mkRat_mul_mkRat, ha.val, hb.val] at M
 unfold rat_Mul.f
 exact Ev.bind (whole_Mul.ev ha.num hb.num (by omega)) (Ev.bind (rat_den.ev ha.ws (by omega)) (Ev.bind (rat_den.ev hb.ws (by omega)) (Ev.bind P (Ev.bind M (Ev.now _)))))
/-! ### rat_Div: function 12 -/
def rat_Div.f (k : Nat) (a0_0 : Bool) (l0_1 : List Int) (l0_2 : List Int) (a1_0 : Bool) (l1_1 : List Int) (l1_2 : List Int) : Option (Bool × List Int × List Int × Int) := (rat_Sign.f k a1_0 l1_1 l1_2).bind fun t487 => (if t487 = 0 then (some (false, ([] : List Int), ([] : List Int), 5)) else ((rat_Sign.f k a1_0 l1_1 l1_2).bind fun t488 => ((rat_den.f k a1_0 l1_1 l1_2).bind fun t489 => ((whole_Make.f k (decide (t488 < 0)) t489).bind fun bt492 => ((rat_Mul.f k a0_0 l0_1 l0_2 bt492.1 bt492.2 l1_1).bind fun bt497 => (some (bt497.1, bt497.2.1, bt497.2.2, 0)))))))
def rat_Div.T3 : Bool × List (List Nat × List Nat) := (true, [([], []), ([0], [0]), ([1], [1]), ([], []), ([3, 1], [3]), ([2, 4, 4], [2, 4]), ([], []), ([6], [6]), ([7], [7]), ([5, 8], [5, 8]), ([], []), ([10, 9, 5, 0, 1, 2, 3, 4, 5, 6, 7, 8, 9, 10], [9, 10])])
def rat_Div.B3 : List Nat := [0, 1, 3, 0, 11, 31, 0, 64, 192, 511, 0, 2047]
theorem rat_Div.tab3 : rtab .any (opsOf Try.f12 3) = rat_Div.T3 := by kernel_rfl
theorem rat_Div.bits3 : waitsOk rat_Div.T3.2 rat_Div.B3 = true := by kernel_rfl
set_option maxHeartbeats 8000000 in
set_option maxRecDepth 100000 in
theorem rat_Div.calls (k : Nat) (a0_0 : Bool) (A0_1 : Option Addr) (c0_1 : Nat) (l0_1 : List Int) (A0_2 : Option Addr) (c0_2 : Nat) (l0_2 : List Int) (a1_0 : Bool) (A1_1 : Option Addr) (c1_1 : Nat) (l1_1 : List Int) (A1_2 : Option Addr) (c1_2 : Nat) (l1_2 : List Int) (r1 : Bool) (r2 : List Int) (r3 : List Int) (r4 : Int) (w : World) (hr0_1 : Kd.C (Kd.int .u32) w A0_1 l0_1.length l0_1) (hc0_1 : l0_1.length ≤ c0_1) (hr0_2 : Kd.C (Kd.int .u32) w A0_2 l0_2.length l0_2) (hc0_2 : l0_2.length ≤ c0_2) (hr1_1 : Kd.C (Kd.int .u32) w A1_1 l1_1.length l1_1) (hc1_1 : l1_1.length ≤ c1_1) (hr1_2 : Kd.C (Kd.int .u32) w A1_2 l1_2.length l1_2) (hc1_2 : l1_2.length ≤ c1_2) (h : rat_Div.f k a0_0 l0_1 l0_2 a1_0 l1_1 l1_2 = some (r1, r2, r3, r4)) :
  Calls Try.prog 12 #[.agg #[.bool a0_0, .slice A0_1 l0_1.length c0_1, .slice A0_2 l0_2.length c0_2], .agg #[.bool a1_0, .slice A1_1 l1_1.length c1_1, .slice A1_2 l1_2.length c1_2]] w fun e w' => ∃ v1_ v2_ : Value, e = .returned (.tuple #[.agg #[.bool r1, v1_, v2_], .int .i64 r4]) ∧ Kd.R (Kd.int .u32) 89 w' w.heap.size (fun k_ => some k_ ≠ (v2_ : Value).ownBlock) v1_ r2 ∧ Kd.R (Kd.int .u32) 89 w' w.heap.size (fun k_ => some k_ ≠ (v1_ : Value).ownBlock) v2_ r3 ∧ Below w.heap.size w w' := by
 have hu27 := Try.underlying27
 have HR0_1 := Aside0.mk hr0_1
 have HC0_1 := Aside0.mk hc0_1
 clear hr0_1 hc0_1
 have HR0_2 := Aside0.mk hr0_2
 have HC0_2 := Aside0.mk hc0_2
 clear hr0_2 hc0_2
 have HR1_1 := Aside0.mk hr1_1
 have HC1_1 := Aside0.mk hc1_1
 clear hr1_1 hc1_1
 have HR1_2 := Aside0.mk hr1_2
 have HC1_2 := Aside0.mk hc1_2
 clear hr1_2 hc1_2
 have HB := Aside0.mk (Below.refl w.heap.size w)
 have H : ((rat_Sign.f k a1_0 l1_1 l1_2).bind fun t487 => (if t487 = 0 then (some (false, ([] : List Int), ([] : List Int), 5)) else ((rat_Sign.f k a1_0 l1_1 l1_2).bind fun t488 => ((rat_den.f k a1_0 l1_1 l1_2).bind fun t489 => ((whole_Make.f k (decide (t488 < 0)) t489).bind fun bt492 => ((rat_Mul.f k a0_0 l0_1 l0_2 bt492.1 bt492.2 l1_1).bind fun bt497 => (some (bt497.1, bt497.2.1, bt497.2.2, 0)))))))) = some (r1, r2, r3, r4) := h
 clear h
 replace H := Option.bind_eq_some_iff.mp H
 obtain ⟨t487, A30, H⟩ := H
 try dsimp only at H
 have A3 := Aside0.mk A30
 clear A30
 by_cases c4 : t487 = 0
 ·rw [if_pos c4] at H
  have c4b0 : (t487 == 0) = true := beq_iff_eq.mpr c4
  have c4b1 : (t487 != 0) = false := bne_eq_false_iff_eq.mpr c4
  clear c4
  simp only [Option.some.injEq, Prod.mk.injEq] at H
  obtain ⟨rfl, rfl, rfl, rfl⟩ := H
  go_enter Try.func12, Try.ntmps12
  go_wp2_with (first | ((with_reducible refine gate_dst (N := 2) rfl ?_); refine Short.boxS_ (N := 2) (cs := #[.bool a0_0, .slice A0_1 l0_1.length c0_1, .slice A0_2 l0_2.length c0_2]) (t := 27) ?_; intro gb484 hg w5 hbox hb; have BK484 := Aside0.mk (hbox); have GW484 := Aside0.mk ((by rw [hg]; exact (below_size (by repeat (first | (with_reducible first | exact HB.out | apply below_alloc | apply pw_below_drewN | apply below_drew1) | exact HB.out))) : w.heap.size ≤ gb484)); have GE484 := Aside0.mk ((by rw [hg]; exact (below_size (by repeat (first | (with_reducible first | exact HB.out | apply below_alloc | apply pw_below_drewN | apply below_drew1) | exact HB.out))) : w.heap.size ≤ gb484)); replace HB := Aside0.mk (below_step (by repeat (first | (with_reducible first | exact HB.out | apply below_alloc | apply pw_below_drewN | apply below_drew1) | exact HB.out)) hb); clear hb hbox hg) | ((with_reducible refine gate_dst (N := 3) rfl ?_); refine Short.boxS_ (N := 3) (cs := #[.bool a1_0, .slice A1_1 l1_1.length c1_1, .slice A1_2 l1_2.length c1_2]) (t := 27) ?_; intro gb485 hg w6 hbox hb; have BK485 := Aside0.mk (hbox); have GW485 := Short.sizeB_ (w := w) hg; have GE485 := Short.sizeB_ (w := w) hg; replace HB := Short.stepB_ (w := w) hb; have NB484_485 := Short.ltB_ (g := gb484) hg; have NB485_484 := Short.gtB_ (g := gb484) hg; replace BK484 := Short.blkB_ (g := gb484) hb; clear hb hbox hg) | ((with_reducible refine gate_dst (N := 4) rfl ?_); refine Short.boxS_ (N := 4) (cs := #[.bool false, .slice none 0 0, .slice none 0 0]) (t := 27) ?_; intro gb486 hg w7 hbox hb; have BK486 := Aside0.mk (hbox); have GW486 := Short.sizeB_ (w := w) hg; have GE486 := Short.sizeB_ (w := w) hg; replace HB := Short.stepB_ (w := w) hb; have NB484_486 := Short.ltB_ (g := gb484) hg; have NB486_484 := Short.gtB_ (g := gb484) hg; replace BK484 := Short.blkB_ (g := gb484) hb; have NB485_486 := Short.ltB_ (g := gb485) hg; have NB486_485 := Short.gtB_ (g := gb485) hg; replace BK485 := Short.blkB_ (g := gb485) hb; clear hb hbox hg; have hnb8 := NB485_484.out; have hnc8 := NB484_485.out; have hnb9 := NB485_486.out; have hnc9 := NB486_485.out; have hcz10_0 : w7.cell? ⟨gb485, 0, none⟩ = some (.bool a1_0) := (blk_cell BK485.out 0).trans rfl; have hcz10_1 : w7.cell? ⟨gb485, 1, none⟩ = some (.slice A1_1 l1_1.length c1_1) := (blk_cell BK485.out 1).trans rfl; have hcz10_2 : w7.cell? ⟨gb485, 2, none⟩ = some (.slice A1_2 l1_2.length c1_2) := (blk_cell BK485.out 2).trans rfl; have hfz10_0 := blk_frozen BK485.out 0; have hfz10_1 := blk_frozen BK485.out 1; have hfz10_2 := blk_frozen BK485.out 2) | ((with_reducible refine gate_callee (f := 14) rfl ?_); refine Short.goesS_ (some 8) Try.func14 #[.agg #[.bool a1_0, .slice A1_1 l1_1.length c1_1, .slice A1_2 l1_2.length c1_2]] ?_; (with_reducible refine (rat_Sign.calls k a1_0 _ _ l1_1 _ _ l1_2 t487 _ ?side1 HC1_1.out ?side3 HC1_2.out A3.out).mono ?_); (case side1 => repeat (first | exact (Kd.C_below HR1_1.out HB.out) | (with_reducible refine Kd.C_alloc ?_ _) | (with_reducible refine Kd.C_drewN ?_ _) | (with_reducible refine Kd.C_drew ?_))); (case side3 => repeat (first | exact (Kd.C_below HR1_2.out HB.out) | (with_reducible refine Kd.C_alloc ?_ _) | (with_reducible refine Kd.C_drewN ?_ _) | (with_reducible refine Kd.C_drew ?_))); rintro e w11 ⟨rfl, hb⟩; refine ⟨_, rfl, ?_⟩; replace BK484 := Short.blkB_ (g := gb484) hb; replace BK485 := Short.blkB_ (g := gb485) hb; replace BK486 := Short.blkB_ (g := gb486) hb; replace HB := Short.stepB_ (w := w) hb; (try clear hb); have hnb12 := NB486_484.out; have hnc12 := NB484_486.out; have hcz13_0 : w11.cell? ⟨gb486, 0, none⟩ = some (.bool false) := (blk_cell BK486.out 0).trans rfl; have hcz13_1 : w11.cell? ⟨gb486, 1, none⟩ = some (.slice none 0 0) := (blk_cell BK486.out 1).trans rfl; have hcz13_2 : w11.cell? ⟨gb486, 2, none⟩ = some (.slice none 0 0) := (blk_cell BK486.out 2).trans rfl; have hfz13_0 := blk_frozen BK486.out 0; have hfz13_1 := blk_frozen BK486.out 1; have hfz13_2 := blk_frozen BK486.out 2))
  refine bodyPost_ret (results_ct rfl _ _ gb486 27 #[.bool false, .slice none 0 0, .slice none 0 0] (0, 0) _ rfl (by (with_reducible repeat (first | refine blk_drewN ?_ _ | refine blk_drew ?_ | refine blk_alloc ?_ _)); refine blk_put (cs := #[.bool false, .slice none 0 0, .slice none 0 0]) ?_ 2 _ rfl; (with_reducible repeat (first | refine blk_drewN ?_ _ | refine blk_drew ?_ | refine blk_alloc ?_ _)); refine blk_put (cs := #[.bool false, .slice none 0 0, .slice none 0 0]) ?_ 1 _ rfl; (with_reducible repeat (first | refine blk_drewN ?_ _ | refine blk_drew ?_ | refine blk_alloc ?_ _)); refine blk_put (cs := #[.bool false, .slice none 0 0, .slice none 0 0]) ?_ 0 _ rfl; (with_reducible repeat (first | refine blk_drewN ?_ _ | refine blk_drew ?_ | refine blk_alloc ?_ _)); exact BK486.out) Try.underlying27 rfl (by kernel_rfl)) rfl ?_
  exact ⟨_, _, by rfl, by first | exact Kd.R_nil _ _ _ _ _ | exact Kd.N_nil _ _ _ _ _ | exact Kd.V_nil _ _ _ _ _ | exact Kd.Q_nil _ _ _ _ _ | exact Kd.S_nil _ _ _ _ _, by first | exact Kd.R_nil _ _ _ _ _ | exact Kd.N_nil _ _ _ _ _ | exact Kd.V_nil _ _ _ _ _ | exact Kd.Q_nil _ _ _ _ _ | exact Kd.S_nil _ _ _ _ _, by repeat (first | (with_reducible first | exact HB.out | apply below_alloc | apply pw_below_drewN | apply below_drew1 | refine below_set ?_ GE484.out | refine below_set ?_ GE485.out | refine below_set ?_ GE486.out) | exact HB.out)⟩
 ·rw [if_neg c4] at H
  have c4b0 : (t487 == 0) = false := beq_eq_false_iff_ne.mpr c4
  have c4b1 : (t487 != 0) = true := bne_iff_ne.mpr c4
  replace H := Option.bind_eq_some_iff.mp H
  obtain ⟨t488, A140, H⟩ := H
  try dsimp only at H
  have A14 := Aside0.mk A140
  clear A140
  replace H := Option.bind_eq_some_iff.mp H
  obtain ⟨t489, A150, H⟩ := H
  try dsimp only at H
  have A15 := Aside0.mk A150
  clear A150
  replace H := Option.bind_eq_some_iff.mp H
  obtain ⟨⟨t492, t493⟩, A160, H⟩ := H
  try dsimp only at H
  have A16 := Aside0.mk A160
  clear A160
  replace H := Option.bind_eq_some_iff.mp H
  obtain ⟨⟨t497, t498, t501⟩, A170, H⟩ := H
  replace H : (some (t497, t498, t501, 0)) = some (r1, r2, r3, r4) := H
  have A17 := Aside0.mk A170
  clear A170
  simp only [Option.some.injEq, Prod.mk.injEq] at H
  obtain ⟨rfl, rfl, rfl, rfl⟩ := H
  go_enter Try.func12, Try.ntmps12
  try go_wp2_with (first | ((with_reducible refine gate_dst (N := 2) rfl ?_); refine Short.boxS_ (N := 2) (cs := #[.bool a0_0, .slice A0_1 l0_1.length c0_1, .slice A0_2 l0_2.length c0_2]) (t := 27) ?_; intro gb484 hg w18 hbox hb; have BK484 := Aside0.mk (hbox); have GW484 := Aside0.mk ((by rw [hg]; exact (below_size (by repeat (first | (with_reducible first | exact HB.out | apply below_alloc | apply pw_below_drewN | apply below_drew1) | exact HB.out))) : w.heap.size ≤ gb484)); have GE484 := Aside0.mk ((by rw [hg]; exact (below_size (by repeat (first | (with_reducible first | exact HB.out | apply below_alloc | apply pw_below_drewN | apply below_drew1) | exact HB.out))) : w.heap.size ≤ gb484)); replace HB := Aside0.mk (below_step (by repeat (first | (with_reducible first | exact HB.out | apply below_alloc | apply pw_below_drewN | apply below_drew1) | exact HB.out)) hb); clear hb hbox hg) | ((with_reducible refine gate_dst (N := 3) rfl ?_); refine Short.boxS_ (N := 3) (cs := #[.bool a1_0, .slice A1_1 l1_1.length c1_1, .slice A1_2 l1_2.length c1_2]) (t := 27) ?_; intro gb485 hg w19 hbox hb; have BK485 := Aside0.mk (hbox); have GW485 := Short.sizeB_ (w := w) hg; have GE485 := Short.sizeB_ (w := w) hg; replace HB := Short.stepB_ (w := w) hb; have NB484_485 := Short.ltB_ (g := gb484) hg; have NB485_484 := Short.gtB_ (g := gb484) hg; replace BK484 := Short.blkB_ (g := gb484) hb; clear hb hbox hg) | ((with_reducible refine gate_dst (N := 4) rfl ?_); refine Short.boxS_ (N := 4) (cs := #[.bool false, .slice none 0 0, .slice none 0 0]) (t := 27) ?_; intro gb486 hg w20 hbox hb; have BK486 := Aside0.mk (hbox); have GW486 := Short.sizeB_ (w := w) hg; have GE486 := Short.sizeB_ (w := w) hg; replace HB := Short.stepB_ (w := w) hb; have NB484_486 := Short.ltB_ (g := gb484) hg; have NB486_484 := Short.gtB_ (g := gb484) hg; replace BK484 := Short.blkB_ (g := gb484) hb; have NB485_486 := Short.ltB_ (g := gb485) hg; have NB486_485 := Short.gtB_ (g := gb485) hg; replace BK485 := Short.blkB_ (g := gb485) hb; clear hb hbox hg; have hnb21 := NB485_484.out; have hnc21 := NB484_485.out; have hnb22 := NB485_486.out; have hnc22 := NB486_485.out; have hcz23_0 : w20.cell? ⟨gb485, 0, none⟩ = some (.bool a1_0) := (blk_cell BK485.out 0).trans rfl; have hcz23_1 : w20.cell? ⟨gb485, 1, none⟩ = some (.slice A1_1 l1_1.length c1_1) := (blk_cell BK485.out 1).trans rfl; have hcz23_2 : w20.cell? ⟨gb485, 2, none⟩ = some (.slice A1_2 l1_2.length c1_2) := (blk_cell BK485.out 2).trans rfl; have hfz23_0 := blk_frozen BK485.out 0; have hfz23_1 := blk_frozen BK485.out 1; have hfz23_2 := blk_frozen BK485.out 2) | ((with_reducible refine gate_callee (f := 14) rfl ?_); refine Short.goesS_ (some 8) Try.func14 #[.agg #[.bool a1_0, .slice A1_1 l1_1.length c1_1, .slice A1_2 l1_2.length c1_2]] ?_; (with_reducible refine (rat_Sign.calls k a1_0 _ _ l1_1 _ _ l1_2 t487 _ ?side1 HC1_1.out ?side3 HC1_2.out A3.out).mono ?_); (case side1 => repeat (first | exact (Kd.C_below HR1_1.out HB.out) | (with_reducible refine Kd.C_alloc ?_ _) | (with_reducible refine Kd.C_drewN ?_ _) | (with_reducible refine Kd.C_drew ?_))); (case side3 => repeat (first | exact (Kd.C_below HR1_2.out HB.out) | (with_reducible refine Kd.C_alloc ?_ _) | (with_reducible refine Kd.C_drewN ?_ _) | (with_reducible refine Kd.C_drew ?_))); rintro e w24 ⟨rfl, hb⟩; refine ⟨_, rfl, ?_⟩; replace BK484 := Short.blkB_ (g := gb484) hb; replace BK485 := Short.blkB_ (g := gb485) hb; replace BK486 := Short.blkB_ (g := gb486) hb; replace HB := Short.stepB_ (w := w) hb; (try clear hb)))
  replace BK484 := Aside0.mk (blk_drew BK484.out)
  replace BK485 := Aside0.mk (blk_drew BK485.out)
  replace BK486 := Aside0.mk (blk_drew BK486.out)
  replace HB := Aside0.mk (below_drew1 HB.out)
  refine start_ (n := 12) (S := fun w' => w'.cell? ⟨gb485, 0, none⟩ = some (.bool a1_0) ∧ w'.cell? ⟨gb485, 1, none⟩ = some (.slice A1_1 l1_1.length c1_1) ∧ w'.cell? ⟨gb485, 2, none⟩ = some (.slice A1_2 l1_2.length c1_2)) (ds := []) #[false, false, false, false, false, false, false, false, false, false, false, false] (by kernel_rfl) rfl rfl ⟨(blk_cell BK485.out 0).trans rfl, (blk_cell BK485.out 1).trans rfl, (blk_cell BK485.out 2).trans rfl⟩ (fun hHeld => ?_); refine with_tabW rat_Div.tab3 rat_Div.bits3 (fun HT_ HW_ => ?_)
  generalize w24.drew = w25 at BK484 BK485 BK486 HB hHeld ⊢
  refine Short.pureS_ (i := 6) (N := some 17) #[false, false, false, false, false, false, true, false, false, false, false, false] (any_of HT_.out (by kernel_rfl)) ?_
  refine Short.pureS_ (i := 7) (N := some 18) #[false, false, false, false, false, false, true, true, false, false, false, false] (any_of HT_.out (by kernel_rfl)) ?_
  refine Short.takeS_ (i := 0) (N := some 11) #[true, false, false, false, false, false, true, true, false, false, false, false] (take_ofW HT_.out HW_.out (by kernel_rfl)) hHeld ?_
  refine Short.takeS_ (i := 3) (N := some 14) #[true, false, false, true, false, false, true, true, false, false, false, false] (take_ofW HT_.out HW_.out (by kernel_rfl)) hHeld ?_
  refine Short.takeS_ (i := 8) (N := some 19) #[true, false, false, true, false, false, true, true, true, false, false, false] (take_ofW HT_.out HW_.out (by kernel_rfl)) hHeld ?_
  refine join_ (σ := Value × Value × Nat) 1 #[true, true, true, true, true, true, true, true, true, true, true, false] (fun s_ => [(12, .int .i64 t488), (15, s_.1), (16, .agg #[.bool t492, s_.2.1]), (6, .pointer (some ⟨s_.2.2, 0, none⟩)), (13, .bool (decide (t488 < 0))), (20, .agg #[.bool t492, s_.2.1, .slice A1_1 l1_1.length c1_1])]) (fun s_ w' => (w'.cell? ⟨gb485, 0, none⟩ = some (.bool a1_0) ∧ w'.cell? ⟨gb485, 1, none⟩ = some (.slice A1_1 l1_1.length c1_1) ∧ w'.cell? ⟨gb485, 2, none⟩ = some (.slice A1_2 l1_2.length c1_2)) ∧ (Kd.V (Kd.int .u32) 89 w' w.heap.size (fun k_ => some k_ ≠ (s_.2.1 : Value).ownBlock ∧ k_ ≠ gb484 ∧ k_ ≠ gb485 ∧ k_ ≠ gb486 ∧ k_ ≠ s_.2.2) s_.1 t489) ∧ (Kd.R (Kd.int .u32) 89 w' w.heap.size (fun _ => True) s_.2.1 t493) ∧ (w'.heap[gb484]? = some (.cells #[.bool a0_0, .slice A0_1 l0_1.length c0_1, .slice A0_2 l0_2.length c0_2] 27 (0, 0))) ∧ (w'.heap[gb485]? = some (.cells #[.bool a1_0, .slice A1_1 l1_1.length c1_1, .slice A1_2 l1_2.length c1_2] 27 (0, 0))) ∧ (w'.heap[gb486]? = some (.cells #[.bool false, .slice none 0 0, .slice none 0 0] 27 (0, 0))) ∧ (w'.heap[s_.2.2]? = some (.cells #[.bool false, .slice none 0 0, .slice none 0 0] 27 (0, 0))) ∧ (w.heap.size ≤ s_.2.2) ∧ (w.heap.size ≤ s_.2.2) ∧ (gb484 ≠ s_.2.2) ∧ (s_.2.2 ≠ gb484) ∧ (gb485 ≠ s_.2.2) ∧ (s_.2.2 ≠ gb485) ∧ (gb486 ≠ s_.2.2) ∧ (s_.2.2 ≠ gb486) ∧ (Below w.heap.size w w')) ?_ ?_
  rotate_left
  ·intro hCont
   refine two_ (i := 1) (j := 10) (Ni := some 12) (Nj := some 6) #[true, true, false, true, false, false, true, true, true, false, false, false] #[true, false, false, true, false, false, true, true, true, false, true, false] rfl rfl rfl rfl (two_of HT_.out (by kernel_rfl)) (by decide) (by decide) (fun K hK => ?_) (fun K hK => ?_)
   ·skip
    refine Short.goesD_ Try.func14 #[.agg #[.bool a1_0, .slice A1_1 l1_1.length c1_1, .slice A1_2 l1_2.length c1_2]] ?_
    with_reducible refine (rat_Sign.calls k a1_0 _ _ l1_1 _ _ l1_2 t488 _ (Kd.C_below HR1_1.out HB.out) HC1_1.out (Kd.C_below HR1_2.out HB.out) HC1_2.out A14.out).mono ?_
    rintro e w26 ⟨rfl, hb⟩
    refine ⟨_, rfl, ?_⟩
    replace BK484 := Aside0.mk (blk_below BK484.out hb)
    replace BK485 := Aside0.mk (blk_below BK485.out hb)
    replace BK486 := Aside0.mk (blk_below BK486.out hb)
    replace HB := Aside0.mk (below_step HB.out hb)
    (try clear hb)
    refine hK.out _ _ ⟨(blk_cell BK485.out 0).trans rfl, (blk_cell BK485.out 1).trans rfl, (blk_cell BK485.out 2).trans rfl⟩ (fun hHeld => ?_)
    clear hK K
    refine Short.normS_ ?_
    refine Short.pureS_ (i := 2) (N := some 13) #[true, true, true, true, false, false, true, true, true, false, false, false] (any_of HT_.out (by kernel_rfl)) ?_
    refine two_ (i := 4) (j := 10) (Ni := some 15) (Nj := some 6) #[true, true, true, true, true, false, true, true, true, false, false, false] #[true, true, true, true, false, false, true, true, true, false, true, false] rfl rfl rfl rfl (two_of HT_.out (by kernel_rfl)) (by decide) (by decide) (fun K hK => ?_) (fun K hK => ?_)
    ·skip
     refine Short.goesD_ Try.func46 #[.agg #[.bool a1_0, .slice A1_1 l1_1.length c1_1, .slice A1_2 l1_2.length c1_2]] ?_
     with_reducible refine (rat_den.calls k a1_0 _ _ l1_1 (fun k_ => k_ < w.heap.size) _ _ l1_2 t489 _ (Kd.C_below HR1_1.out HB.out) HC1_1.out ?side3 A15.out).mono ?_
     (case side3 => exact Kd.V_mk HC1_2.out (Kd.F_below (Kd.C_F (Kd.heap_int .u32) HR1_2.out) HB.out))
     rintro e w27 ⟨v490, rfl, ho0, hb⟩
     refine ⟨_, rfl, ?_⟩
     have HO491 := Aside0.mk (Kd.V_lower (Kd.V_mono (ok' := fun k_ => k_ ≠ gb484 ∧ k_ ≠ gb485 ∧ k_ ≠ gb486) ho0 (fun k_ hk_ => ⟨Or.elim hk_ (fun hs_ => fun e_ => Nat.not_le.2 hs_ (by rw [e_]; exact GW484.out)) (fun hn_ => (Kd.freshB (g := gb484) (o := .cells #[.bool a0_0, .slice A0_1 l0_1.length c0_1, .slice A0_2 l0_2.length c0_2] 27 (0, 0)) BK484.out k_ hn_)), Or.elim hk_ (fun hs_ => fun e_ => Nat.not_le.2 hs_ (by rw [e_]; exact GW485.out)) (fun hn_ => (Kd.freshB (g := gb485) (o := .cells #[.bool a1_0, .slice A1_1 l1_1.length c1_1, .slice A1_2 l1_2.length c1_2] 27 (0, 0)) BK485.out k_ hn_)), Or.elim hk_ (fun hs_ => fun e_ => Nat.not_le.2 hs_ (by rw [e_]; exact GW486.out)) (fun hn_ => (Kd.freshB (g := gb486) (o := .cells #[.bool false, .slice none 0 0, .slice none 0 0] 27 (0, 0)) BK486.out k_ hn_))⟩)) (below_size HB.out))
     replace BK484 := Aside0.mk (blk_below BK484.out hb)
     replace BK485 := Aside0.mk (blk_below BK485.out hb)
     replace BK486 := Aside0.mk (blk_below BK486.out hb)
     replace HB := Aside0.mk (below_step HB.out hb)
     (try clear hb)
     (try clear ho0)
     obtain ⟨Ao28, co28, eo28⟩ := Kd.V_slice HO491.out
     (first | subst eo28 | (injection eo28 with f1_ f2_ f3_; have f4_ := f1_.symm; have f5_ := f3_.symm; clear f1_ f2_ f3_; subst f4_; subst f5_))
     refine hK.out _ _ ⟨(blk_cell BK485.out 0).trans rfl, (blk_cell BK485.out 1).trans rfl, (blk_cell BK485.out 2).trans rfl⟩ (fun hHeld => ?_)
     clear hK K
     refine Short.normS_ ?_
     refine two_ (i := 5) (j := 10) (Ni := some 16) (Nj := some 6) #[true, true, true, true, true, true, true, true, true, false, false, false] #[true, true, true, true, true, false, true, true, true, false, true, false] rfl rfl rfl rfl (two_of HT_.out (by kernel_rfl)) (by decide) (by decide) (fun K hK => ?_) (fun K hK => ?_)
     ·skip
      refine Short.goesD_ Try.func45 #[.bool (decide (t488 < 0)), .slice Ao28 t489.length co28] ?_
      with_reducible refine (whole_Make.calls k (decide (t488 < 0)) _ _ t489 t492 t493 _ ((Kd.V_reads' HO491.out).2.2) ((Kd.V_reads' HO491.out).2.1) A16.out).mono ?_
      rintro e w29 ⟨v494, rfl, ho0, hb⟩
      refine ⟨_, rfl, ?_⟩
      replace HO491 := Aside0.mk (Kd.V_elder' HO491.out (Kd.R_base ho0) hb)
      have HO495 := Aside0.mk (Kd.R_lower ho0 (below_size HB.out))
      replace BK484 := Aside0.mk (blk_below BK484.out hb)
      replace BK485 := Aside0.mk (blk_below BK485.out hb)
      replace BK486 := Aside0.mk (blk_below BK486.out hb)
      replace HB := Aside0.mk (below_step HB.out hb)
      (try clear hb)
      (try clear ho0)
      obtain ⟨Ao30, co30, eo30⟩ := Kd.R_slice HO495.out
      (first | subst eo30 | (injection eo30 with f1_ f2_ f3_; have f4_ := f1_.symm; have f5_ := f3_.symm; clear f1_ f2_ f3_; subst f4_; subst f5_))
      refine hK.out _ _ ⟨(blk_cell BK485.out 0).trans rfl, (blk_cell BK485.out 1).trans rfl, (blk_cell BK485.out 2).trans rfl⟩ (fun hHeld => ?_)
      clear hK K
      refine Short.normS_ ?_
      refine Short.pureS_ (i := 9) (N := some 20) #[true, true, true, true, true, true, true, true, true, true, false, false] (any_of HT_.out (by kernel_rfl)) ?_
      refine one_ (i := 10) (N := some 6) #[true, true, true, true, true, true, true, true, true, true, true, false] rfl rfl (one_of HT_.out (by kernel_rfl)) (by decide) (fun K hK => ?_)
      refine Short.boxD_ (N := 6) (cs := #[.bool false, .slice none 0 0, .slice none 0 0]) (t := 27) ?_
      intro gb496 hg w31 hbox hb
      replace HO491 := Aside0.mk (Kd.V_below (Kd.V_elderB HO491.out gb496 (Nat.le_of_eq hg.symm)) hb)
      replace HO495 := Aside0.mk (Kd.R_below HO495.out hb)
      have BK496 := Aside0.mk (hbox)
      have GW496 := Aside0.mk ((by rw [hg]; exact (below_size HB.out) : w.heap.size ≤ gb496))
      have GE496 := Aside0.mk ((by rw [hg]; exact (below_size HB.out) : w.heap.size ≤ gb496))
      replace HB := Aside0.mk (below_step HB.out hb)
      have NB484_496 := Short.ltA_ hg BK484
      have NB496_484 := Short.gtA_ hg BK484
      replace BK484 := Aside0.mk (blk_below BK484.out hb)
      have NB485_496 := Short.ltA_ hg BK485
      have NB496_485 := Short.gtA_ hg BK485
      replace BK485 := Aside0.mk (blk_below BK485.out hb)
      have NB486_496 := Short.ltA_ hg BK486
      have NB496_486 := Short.gtA_ hg BK486
      replace BK486 := Aside0.mk (blk_below BK486.out hb)
      clear hb hbox hg
      refine hK.out _ _ ⟨(blk_cell BK485.out 0).trans rfl, (blk_cell BK485.out 1).trans rfl, (blk_cell BK485.out 2).trans rfl⟩ (fun hHeld => ?_)
      clear hK K
      refine Short.normS_ ?_
      exact Short.normP_ (hCont (.slice Ao28 t489.length co28, .slice Ao30 t493.length co30, gb496) _ ⟨hHeld, (by (with_reducible repeat (first | apply Kd.V_alloc | apply Kd.V_drewN | apply Kd.V_drew)); exact Kd.V_mono HO491.out (fun _ hk => ⟨hk.1.2, ⟨hk.1.1.1, ⟨hk.1.1.2.1, ⟨hk.1.1.2.2, hk.2⟩⟩⟩⟩)), HO495.out, BK484.out, BK485.out, BK486.out, BK496.out, GW496.out, GE496.out, NB484_496.out, NB496_484.out, NB485_496.out, NB496_485.out, NB486_496.out, NB496_486.out, HB.out⟩)
     ·skip
      refine Short.boxD_ (N := 6) (cs := #[.bool false, .slice none 0 0, .slice none 0 0]) (t := 27) ?_
      intro gb496 hg w28 hbox hb
      replace HO491 := Aside0.mk (Kd.V_below (Kd.V_elderB HO491.out gb496 (Nat.le_of_eq hg.symm)) hb)
      have BK496 := Aside0.mk (hbox)
      have GW496 := Aside0.mk ((by rw [hg]; exact (below_size HB.out) : w.heap.size ≤ gb496))
      have GE496 := Aside0.mk ((by rw [hg]; exact (below_size HB.out) : w.heap.size ≤ gb496))
      replace HB := Aside0.mk (below_step HB.out hb)
      have NB484_496 := Short.ltA_ hg BK484
      have NB496_484 := Short.gtA_ hg BK484
      replace BK484 := Aside0.mk (blk_below BK484.out hb)
      have NB485_496 := Short.ltA_ hg BK485
      have NB496_485 := Short.gtA_ hg BK485
      replace BK485 := Aside0.mk (blk_below BK485.out hb)
      have NB486_496 := Short.ltA_ hg BK486
      have NB496_486 := Short.gtA_ hg BK486
      replace BK486 := Aside0.mk (blk_below BK486.out hb)
      clear hb hbox hg
      obtain ⟨Ao29, co29, eo29⟩ := Kd.V_slice HO491.out
      (first | subst eo29 | (injection eo29 with f1_ f2_ f3_; have f4_ := f1_.symm; have f5_ := f3_.symm; clear f1_ f2_ f3_; subst f4_; subst f5_))
      refine hK.out _ _ ⟨(blk_cell BK485.out 0).trans rfl, (blk_cell BK485.out 1).trans rfl, (blk_cell BK485.out 2).trans rfl⟩ (fun hHeld => ?_)
      clear hK K
      refine Short.normS_ ?_
      refine one_ (i := 5) (N := some 16) #[true, true, true, true, true, true, true, true, true, false, true, false] rfl rfl (one_of HT_.out (by kernel_rfl)) (by decide) (fun K hK => ?_)
      refine Short.goesD_ Try.func45 #[.bool (decide (t488 < 0)), .slice Ao29 t489.length co29] ?_
      with_reducible refine (whole_Make.calls k (decide (t488 < 0)) _ _ t489 t492 t493 _ ((Kd.V_reads' HO491.out).2.2) ((Kd.V_reads' HO491.out).2.1) A16.out).mono ?_
      rintro e w30 ⟨v494, rfl, ho0, hb⟩
      refine ⟨_, rfl, ?_⟩
      replace HO491 := Aside0.mk (Kd.V_elder' HO491.out (Kd.R_base ho0) hb)
      have HO495 := Aside0.mk (Kd.R_lower ho0 (below_size HB.out))
      replace BK484 := Aside0.mk (blk_below BK484.out hb)
      replace BK485 := Aside0.mk (blk_below BK485.out hb)
      replace BK486 := Aside0.mk (blk_below BK486.out hb)
      replace BK496 := Aside0.mk (blk_below BK496.out hb)
      replace HB := Aside0.mk (below_step HB.out hb)
      (try clear hb)
      (try clear ho0)
      obtain ⟨Ao31, co31, eo31⟩ := Kd.R_slice HO495.out
      (first | subst eo31 | (injection eo31 with f1_ f2_ f3_; have f4_ := f1_.symm; have f5_ := f3_.symm; clear f1_ f2_ f3_; subst f4_; subst f5_))
      refine hK.out _ _ ⟨(blk_cell BK485.out 0).trans rfl, (blk_cell BK485.out 1).trans rfl, (blk_cell BK485.out 2).trans rfl⟩ (fun hHeld => ?_)
      clear hK K
      refine Short.normS_ ?_
      refine Short.pureS_ (i := 9) (N := some 20) #[true, true, true, true, true, true, true, true, true, true, true, false] (any_of HT_.out (by kernel_rfl)) ?_
      exact Short.normP_ (hCont (.slice Ao29 t489.length co29, .slice Ao31 t493.length co31, gb496) _ ⟨hHeld, (by (with_reducible repeat (first | apply Kd.V_alloc | apply Kd.V_drewN | apply Kd.V_drew)); exact Kd.V_mono HO491.out (fun _ hk => ⟨hk.2, ⟨hk.1.1.1, ⟨hk.1.1.2.1, ⟨hk.1.1.2.2, hk.1.2⟩⟩⟩⟩)), HO495.out, BK484.out, BK485.out, BK486.out, BK496.out, GW496.out, GE496.out, NB484_496.out, NB496_484.out, NB485_496.out, NB496_485.out, NB486_496.out, NB496_486.out, HB.out⟩)
    ·skip
     refine Short.boxD_ (N := 6) (cs := #[.bool false, .slice none 0 0, .slice none 0 0]) (t := 27) ?_
     intro gb496 hg w27 hbox hb
     have BK496 := Aside0.mk (hbox)
     have GW496 := Aside0.mk ((by rw [hg]; exact (below_size HB.out) : w.heap.size ≤ gb496))
     have GE496 := Aside0.mk ((by rw [hg]; exact (below_size HB.out) : w.heap.size ≤ gb496))
     replace HB := Aside0.mk (below_step HB.out hb)
     have NB484_496 := Short.ltA_ hg BK484
     have NB496_484 := Short.gtA_ hg BK484
     replace BK484 := Aside0.mk (blk_below BK484.out hb)
     have NB485_496 := Short.ltA_ hg BK485
     have NB496_485 := Short.gtA_ hg BK485
     replace BK485 := Aside0.mk (blk_below BK485.out hb)
     have NB486_496 := Short.ltA_ hg BK486
     have NB496_486 := Short.gtA_ hg BK486
     replace BK486 := Aside0.mk (blk_below BK486.out hb)
     clear hb hbox hg
     refine hK.out _ _ ⟨(blk_cell BK485.out 0).trans rfl, (blk_cell BK485.out 1).trans rfl, (blk_cell BK485.out 2).trans rfl⟩ (fun hHeld => ?_)
     clear hK K
     refine Short.normS_ ?_
     refine one_ (i := 4) (N := some 15) #[true, true, true, true, true, false, true, true, true, false, true, false] rfl rfl (one_of HT_.out (by kernel_rfl)) (by decide) (fun K hK => ?_)
     refine Short.goesD_ Try.func46 #[.agg #[.bool a1_0, .slice A1_1 l1_1.length c1_1, .slice A1_2 l1_2.length c1_2]] ?_
     with_reducible refine (rat_den.calls k a1_0 _ _ l1_1 (fun k_ => k_ < w.heap.size) _ _ l1_2 t489 _ (Kd.C_below HR1_1.out HB.out) HC1_1.out ?side3 A15.out).mono ?_
     (case side3 => exact Kd.V_mk HC1_2.out (Kd.F_below (Kd.C_F (Kd.heap_int .u32) HR1_2.out) HB.out))
     rintro e w28 ⟨v490, rfl, ho0, hb⟩
     refine ⟨_, rfl, ?_⟩
     have HO491 := Aside0.mk (Kd.V_lower (Kd.V_mono (ok' := fun k_ => k_ ≠ gb484 ∧ k_ ≠ gb485 ∧ k_ ≠ gb486 ∧ k_ ≠ gb496) ho0 (fun k_ hk_ => ⟨Or.elim hk_ (fun hs_ => fun e_ => Nat.not_le.2 hs_ (by rw [e_]; exact GW484.out)) (fun hn_ => (Kd.freshB (g := gb484) (o := .cells #[.bool a0_0, .slice A0_1 l0_1.length c0_1, .slice A0_2 l0_2.length c0_2] 27 (0, 0)) BK484.out k_ hn_)), Or.elim hk_ (fun hs_ => fun e_ => Nat.not_le.2 hs_ (by rw [e_]; exact GW485.out)) (fun hn_ => (Kd.freshB (g := gb485) (o := .cells #[.bool a1_0, .slice A1_1 l1_1.length c1_1, .slice A1_2 l1_2.length c1_2] 27 (0, 0)) BK485.out k_ hn_)), Or.elim hk_ (fun hs_ => fun e_ => Nat.not_le.2 hs_ (by rw [e_]; exact GW486.out)) (fun hn_ => (Kd.freshB (g := gb486) (o := .cells #[.bool false, .slice none 0 0, .slice none 0 0] 27 (0, 0)) BK486.out k_ hn_)), Or.elim hk_ (fun hs_ => fun e_ => Nat.not_le.2 hs_ (by rw [e_]; exact GW496.out)) (fun hn_ => (Kd.freshB (g := gb496) (o := .cells #[.bool false, .slice none 0 0, .slice none 0 0] 27 (0, 0)) BK496.out k_ hn_))⟩)) (below_size HB.out))
     replace BK484 := Aside0.mk (blk_below BK484.out hb)
     replace BK485 := Aside0.mk (blk_below BK485.out hb)
     replace BK486 := Aside0.mk (blk_below BK486.out hb)
     replace BK496 := Aside0.mk (blk_below BK496.out hb)
     replace HB := Aside0.mk (below_step HB.out hb)
     (try clear hb)
     (try clear ho0)
     obtain ⟨Ao29, co29, eo29⟩ := Kd.V_slice HO491.out
     (first | subst eo29 | (injection eo29 with f1_ f2_ f3_; have f4_ := f1_.symm; have f5_ := f3_.symm; clear f1_ f2_ f3_; subst f4_; subst f5_))
     refine hK.out _ _ ⟨(blk_cell BK485.out 0).trans rfl, (blk_cell BK485.out 1).trans rfl, (blk_cell BK485.out 2).trans rfl⟩ (fun hHeld => ?_)
     clear hK K
     refine Short.normS_ ?_
     refine one_ (i := 5) (N := some 16) #[true, true, true, true, true, true, true, true, true, false, true, false] rfl rfl (one_of HT_.out (by kernel_rfl)) (by decide) (fun K hK => ?_)
     refine Short.goesD_ Try.func45 #[.bool (decide (t488 < 0)), .slice Ao29 t489.length co29] ?_
     with_reducible refine (whole_Make.calls k (decide (t488 < 0)) _ _ t489 t492 t493 _ ((Kd.V_reads' HO491.out).2.2) ((Kd.V_reads' HO491.out).2.1) A16.out).mono ?_
     rintro e w30 ⟨v494, rfl, ho0, hb⟩
     refine ⟨_, rfl, ?_⟩
     replace HO491 := Aside0.mk (Kd.V_elder' HO491.out (Kd.R_base ho0) hb)
     have HO495 := Aside0.mk (Kd.R_lower ho0 (below_size HB.out))
     replace BK484 := Aside0.mk (blk_below BK484.out hb)
     replace BK485 := Aside0.mk (blk_below BK485.out hb)
     replace BK486 := Aside0.mk (blk_below BK486.out hb)
     replace BK496 := Aside0.mk (blk_below BK496.out hb)
     replace HB := Aside0.mk (below_step HB.out hb)
     (try clear hb)
     (try clear ho0)
     obtain ⟨Ao31, co31, eo31⟩ := Kd.R_slice HO495.out
     (first | subst eo31 | (injection eo31 with f1_ f2_ f3_; have f4_ := f1_.symm; have f5_ := f3_.symm; clear f1_ f2_ f3_; subst f4_; subst f5_))
     refine hK.out _ _ ⟨(blk_cell BK485.out 0).trans rfl, (blk_cell BK485.out 1).trans rfl, (blk_cell BK485.out 2).trans rfl⟩ (fun hHeld => ?_)
     clear hK K
     refine Short.normS_ ?_
     refine Short.pureS_ (i := 9) (N := some 20) #[true, true, true, true, true, true, true, true, true, true, true, false] (any_of HT_.out (by kernel_rfl)) ?_
     exact Short.normP_ (hCont (.slice Ao29 t489.length co29, .slice Ao31 t493.length co31, gb496) _ ⟨hHeld, (by (with_reducible repeat (first | apply Kd.V_alloc | apply Kd.V_drewN | apply Kd.V_drew)); exact Kd.V_mono HO491.out (fun _ hk => ⟨hk.2, ⟨hk.1.1, ⟨hk.1.2.1, ⟨hk.1.2.2.1, hk.1.2.2.2⟩⟩⟩⟩)), HO495.out, BK484.out, BK485.out, BK486.out, BK496.out, GW496.out, GE496.out, NB484_496.out, NB496_484.out, NB485_496.out, NB496_485.out, NB486_496.out, NB496_486.out, HB.out⟩)
   ·skip
    refine Short.boxD_ (N := 6) (cs := #[.bool false, .slice none 0 0, .slice none 0 0]) (t := 27) ?_
    intro gb496 hg w26 hbox hb
    have BK496 := Aside0.mk (hbox)
    have GW496 := Aside0.mk ((by rw [hg]; exact (below_size HB.out) : w.heap.size ≤ gb496))
    have GE496 := Aside0.mk ((by rw [hg]; exact (below_size HB.out) : w.heap.size ≤ gb496))
    replace HB := Aside0.mk (below_step HB.out hb)
    have NB484_496 := Short.ltA_ hg BK484
    have NB496_484 := Short.gtA_ hg BK484
    replace BK484 := Aside0.mk (blk_below BK484.out hb)
    have NB485_496 := Short.ltA_ hg BK485
    have NB496_485 := Short.gtA_ hg BK485
    replace BK485 := Aside0.mk (blk_below BK485.out hb)
    have NB486_496 := Short.ltA_ hg BK486
    have NB496_486 := Short.gtA_ hg BK486
    replace BK486 := Aside0.mk (blk_below BK486.out hb)
    clear hb hbox hg
    refine hK.out _ _ ⟨(blk_cell BK485.out 0).trans rfl, (blk_cell BK485.out 1).trans rfl, (blk_cell BK485.out 2).trans rfl⟩ (fun hHeld => ?_)
    clear hK K
    refine Short.normS_ ?_
    refine one_ (i := 1) (N := some 12) #[true, true, false, true, false, false, true, true, true, false, true, false] rfl rfl (one_of HT_.out (by kernel_rfl)) (by decide) (fun K hK => ?_)
    refine Short.goesD_ Try.func14 #[.agg #[.bool a1_0, .slice A1_1 l1_1.length c1_1, .slice A1_2 l1_2.length c1_2]] ?_
    with_reducible refine (rat_Sign.calls k a1_0 _ _ l1_1 _ _ l1_2 t488 _ (Kd.C_below HR1_1.out HB.out) HC1_1.out (Kd.C_below HR1_2.out HB.out) HC1_2.out A14.out).mono ?_
    rintro e w27 ⟨rfl, hb⟩
    refine ⟨_, rfl, ?_⟩
    replace BK484 := Aside0.mk (blk_below BK484.out hb)
    replace BK485 := Aside0.mk (blk_below BK485.out hb)
    replace BK486 := Aside0.mk (blk_below BK486.out hb)
    replace BK496 := Aside0.mk (blk_below BK496.out hb)
    replace HB := Aside0.mk (below_step HB.out hb)
    (try clear hb)
    refine hK.out _ _ ⟨(blk_cell BK485.out 0).trans rfl, (blk_cell BK485.out 1).trans rfl, (blk_cell BK485.out 2).trans rfl⟩ (fun hHeld => ?_)
    clear hK K
    refine Short.normS_ ?_
    refine Short.pureS_ (i := 2) (N := some 13) #[true, true, true, true, false, false, true, true, true, false, true, false] (any_of HT_.out (by kernel_rfl)) ?_
    refine one_ (i := 4) (N := some 15) #[true, true, true, true, true, false, true, true, true, false, true, false] rfl rfl (one_of HT_.out (by kernel_rfl)) (by decide) (fun K hK => ?_)
    refine Short.goesD_ Try.func46 #[.agg #[.bool a1_0, .slice A1_1 l1_1.length c1_1, .slice A1_2 l1_2.length c1_2]] ?_
    with_reducible refine (rat_den.calls k a1_0 _ _ l1_1 (fun k_ => k_ < w.heap.size) _ _ l1_2 t489 _ (Kd.C_below HR1_1.out HB.out) HC1_1.out ?side3 A15.out).mono ?_
    (case side3 => exact Kd.V_mk HC1_2.out (Kd.F_below (Kd.C_F (Kd.heap_int .u32) HR1_2.out) HB.out))
    rintro e w28 ⟨v490, rfl, ho0, hb⟩
    refine ⟨_, rfl, ?_⟩
    have HO491 := Aside0.mk (Kd.V_lower (Kd.V_mono (ok' := fun k_ => k_ ≠ gb484 ∧ k_ ≠ gb485 ∧ k_ ≠ gb486 ∧ k_ ≠ gb496) ho0 (fun k_ hk_ => ⟨Or.elim hk_ (fun hs_ => fun e_ => Nat.not_le.2 hs_ (by rw [e_]; exact GW484.out)) (fun hn_ => (Kd.freshB (g := gb484) (o := .cells #[.bool a0_0, .slice A0_1 l0_1.length c0_1, .slice A0_2 l0_2.length c0_2] 27 (0, 0)) BK484.out k_ hn_)), Or.elim hk_ (fun hs_ => fun e_ => Nat.not_le.2 hs_ (by rw [e_]; exact GW485.out)) (fun hn_ => (Kd.freshB (g := gb485) (o := .cells #[.bool a1_0, .slice A1_1 l1_1.length c1_1, .slice A1_2 l1_2.length c1_2] 27 (0, 0)) BK485.out k_ hn_)), Or.elim hk_ (fun hs_ => fun e_ => Nat.not_le.2 hs_ (by rw [e_]; exact GW486.out)) (fun hn_ => (Kd.freshB (g := gb486) (o := .cells #[.bool false, .slice none 0 0, .slice none 0 0] 27 (0, 0)) BK486.out k_ hn_)), Or.elim hk_ (fun hs_ => fun e_ => Nat.not_le.2 hs_ (by rw [e_]; exact GW496.out)) (fun hn_ => (Kd.freshB (g := gb496) (o := .cells #[.bool false, .slice none 0 0, .slice none 0 0] 27 (0, 0)) BK496.out k_ hn_))⟩)) (below_size HB.out))
    replace BK484 := Aside0.mk (blk_below BK484.out hb)
    replace BK485 := Aside0.mk (blk_below BK485.out hb)
    replace BK486 := Aside0.mk (blk_below BK486.out hb)
    replace BK496 := Aside0.mk (blk_below BK496.out hb)
    replace HB := Aside0.mk (below_step HB.out hb)
    (try clear hb)
    (try clear ho0)
    obtain ⟨Ao29, co29, eo29⟩ := Kd.V_slice HO491.out
    (first | subst eo29 | (injection eo29 with f1_ f2_ f3_; have f4_ := f1_.symm; have f5_ := f3_.symm; clear f1_ f2_ f3_; subst f4_; subst f5_))
    refine hK.out _ _ ⟨(blk_cell BK485.out 0).trans rfl, (blk_cell BK485.out 1).trans rfl, (blk_cell BK485.out 2).trans rfl⟩ (fun hHeld => ?_)
    clear hK K
    refine Short.normS_ ?_
    refine one_ (i := 5) (N := some 16) #[true, true, true, true, true, true, true, true, true, false, true, false] rfl rfl (one_of HT_.out (by kernel_rfl)) (by decide) (fun K hK => ?_)
    refine Short.goesD_ Try.func45 #[.bool (decide (t488 < 0)), .slice Ao29 t489.length co29] ?_
    with_reducible refine (whole_Make.calls k (decide (t488 < 0)) _ _ t489 t492 t493 _ ((Kd.V_reads' HO491.out).2.2) ((Kd.V_reads' HO491.out).2.1) A16.out).mono ?_
    rintro e w30 ⟨v494, rfl, ho0, hb⟩
    refine ⟨_, rfl, ?_⟩
    replace HO491 := Aside0.mk (Kd.V_elder' HO491.out (Kd.R_base ho0) hb)
    have HO495 := Aside0.mk (Kd.R_lower ho0 (below_size HB.out))
    replace BK484 := Aside0.mk (blk_below BK484.out hb)
    replace BK485 := Aside0.mk (blk_below BK485.out hb)
    replace BK486 := Aside0.mk (blk_below BK486.out hb)
    replace BK496 := Aside0.mk (blk_below BK496.out hb)
    replace HB := Aside0.mk (below_step HB.out hb)
    (try clear hb)
    (try clear ho0)
    obtain ⟨Ao31, co31, eo31⟩ := Kd.R_slice HO495.out
    (first | subst eo31 | (injection eo31 with f1_ f2_ f3_; have f4_ := f1_.symm; have f5_ := f3_.symm; clear f1_ f2_ f3_; subst f4_; subst f5_))
    refine hK.out _ _ ⟨(blk_cell BK485.out 0).trans rfl, (blk_cell BK485.out 1).trans rfl, (blk_cell BK485.out 2).trans rfl⟩ (fun hHeld => ?_)
    clear hK K
    refine Short.normS_ ?_
    refine Short.pureS_ (i := 9) (N := some 20) #[true, true, true, true, true, true, true, true, true, true, true, false] (any_of HT_.out (by kernel_rfl)) ?_
    exact Short.normP_ (hCont (.slice Ao29 t489.length co29, .slice Ao31 t493.length co31, gb496) _ ⟨hHeld, (by (with_reducible repeat (first | apply Kd.V_alloc | apply Kd.V_drewN | apply Kd.V_drew)); exact Kd.V_mono HO491.out (fun _ hk => ⟨hk.2, ⟨hk.1.1, ⟨hk.1.2.1, ⟨hk.1.2.2.1, hk.1.2.2.2⟩⟩⟩⟩)), HO495.out, BK484.out, BK485.out, BK486.out, BK496.out, GW496.out, GE496.out, NB484_496.out, NB496_484.out, NB485_496.out, NB496_485.out, NB486_496.out, NB496_486.out, HB.out⟩)
  rintro ⟨v490, v494, gb496⟩ w32 ⟨hS_, h0_, h1_, h2_, h3_, h4_, h5_, h6_, h7_, h8_, h9_, h10_, h11_, h12_, h13_, h14_⟩
  have HO491 : Aside0 (Kd.V (Kd.int .u32) 89 w32 w.heap.size (fun k_ => some k_ ≠ (v494 : Value).ownBlock ∧ k_ ≠ gb484 ∧ k_ ≠ gb485 ∧ k_ ≠ gb486 ∧ k_ ≠ gb496) v490 t489) := ⟨h0_⟩
  have HO495 : Aside0 (Kd.R (Kd.int .u32) 89 w32 w.heap.size (fun _ => True) v494 t493) := ⟨h1_⟩
  replace BK484 : Aside0 (w32.heap[gb484]? = some (.cells #[.bool a0_0, .slice A0_1 l0_1.length c0_1, .slice A0_2 l0_2.length c0_2] 27 (0, 0))) := ⟨h2_⟩
  replace BK485 : Aside0 (w32.heap[gb485]? = some (.cells #[.bool a1_0, .slice A1_1 l1_1.length c1_1, .slice A1_2 l1_2.length c1_2] 27 (0, 0))) := ⟨h3_⟩
  replace BK486 : Aside0 (w32.heap[gb486]? = some (.cells #[.bool false, .slice none 0 0, .slice none 0 0] 27 (0, 0))) := ⟨h4_⟩
  have BK496 : Aside0 (w32.heap[gb496]? = some (.cells #[.bool false, .slice none 0 0, .slice none 0 0] 27 (0, 0))) := ⟨h5_⟩
  have GW496 : Aside0 (w.heap.size ≤ gb496) := ⟨h6_⟩
  have GE496 : Aside0 (w.heap.size ≤ gb496) := ⟨h7_⟩
  have NB484_496 : Aside0 (gb484 ≠ gb496) := ⟨h8_⟩
  have NB496_484 : Aside0 (gb496 ≠ gb484) := ⟨h9_⟩
  have NB485_496 : Aside0 (gb485 ≠ gb496) := ⟨h10_⟩
  have NB496_485 : Aside0 (gb496 ≠ gb485) := ⟨h11_⟩
  have NB486_496 : Aside0 (gb486 ≠ gb496) := ⟨h12_⟩
  have NB496_486 : Aside0 (gb496 ≠ gb486) := ⟨h13_⟩
  replace HB : Aside0 (Below w.heap.size w w32) := ⟨h14_⟩
  clear h0_ h1_ h2_ h3_ h4_ h5_ h6_ h7_ h8_ h9_ h10_ h11_ h12_ h13_ h14_
  have hHeld : w32.cell? ⟨gb485, 0, none⟩ = some (.bool a1_0) ∧ w32.cell? ⟨gb485, 1, none⟩ = some (.slice A1_1 l1_1.length c1_1) ∧ w32.cell? ⟨gb485, 2, none⟩ = some (.slice A1_2 l1_2.length c1_2) := hS_
  obtain ⟨Ao33, co33, eo33⟩ := Kd.R_slice HO495.out
  (first | subst eo33 | (injection eo33 with f1_ f2_ f3_; have f4_ := f1_.symm; have f5_ := f3_.symm; clear f1_ f2_ f3_; subst f4_; subst f5_))
  refine norm_ (a' := ?_) ?_ ?_
  rotate_left
  ·simp only [putAll, Act.put, List.setIfInBounds_toArray, List.set_cons_zero, List.set_cons_succ]
   rfl
  refine one_ (i := 11) (N := none) #[true, true, true, true, true, true, true, true, true, true, true, true] rfl rfl (one_of HT_.out (by kernel_rfl)) (by decide) (fun K hK => ?_)
  have hs34 : w32.cell? ⟨gb496, 0, none⟩ = some (.bool false) := (blk_cell BK496.out 0).trans rfl
  have hfs34 := blk_frozen BK496.out 0
  have hns34_0 := NB484_496.out
  have hns34_1 := NB485_496.out
  have hns34_2 := NB486_496.out
  have hms34_0 := NB496_484.out
  have hms34_1 := NB496_485.out
  have hms34_2 := NB496_486.out
  have hs35 : w32.cell? ⟨gb496, 1, none⟩ = some (.slice none 0 0) := (blk_cell BK496.out 1).trans rfl
  have hfs35 := blk_frozen BK496.out 1
  have hns35_0 := NB484_496.out
  have hns35_1 := NB485_496.out
  have hns35_2 := NB486_496.out
  have hms35_0 := NB496_484.out
  have hms35_1 := NB496_485.out
  have hms35_2 := NB496_486.out
  have hs36 : w32.cell? ⟨gb496, 2, none⟩ = some (.slice none 0 0) := (blk_cell BK496.out 2).trans rfl
  have hfs36 := blk_frozen BK496.out 2
  have hns36_0 := NB484_496.out
  have hns36_1 := NB485_496.out
  have hns36_2 := NB486_496.out
  have hms36_0 := NB496_484.out
  have hms36_1 := NB496_485.out
  have hms36_2 := NB496_486.out
  refine skip_ (w1 := ?_) (by rfl) rfl ?_ ?_
  rotate_left
  ·go_simp
   rfl
  refine hK.out _ _ ⟨((cell_far (p := ⟨gb496, _, none⟩) NB485_496.out _).trans (((cell_far (p := ⟨gb496, _, none⟩) NB485_496.out _).trans (((cell_far (p := ⟨gb496, _, none⟩) NB485_496.out _).trans (hHeld.1)))))), ((cell_far (p := ⟨gb496, _, none⟩) NB485_496.out _).trans (((cell_far (p := ⟨gb496, _, none⟩) NB485_496.out _).trans (((cell_far (p := ⟨gb496, _, none⟩) NB485_496.out _).trans (hHeld.2.1)))))), ((cell_far (p := ⟨gb496, _, none⟩) NB485_496.out _).trans (((cell_far (p := ⟨gb496, _, none⟩) NB485_496.out _).trans (((cell_far (p := ⟨gb496, _, none⟩) NB485_496.out _).trans (hHeld.2.2))))))⟩ (fun hHeld => ?_)
  clear hK K
  refine done_ (done_of HT_.out (by kernel_rfl)) ?_
  have hnb37 := NB484_486.out
  have hnc37 := NB486_484.out
  have hnb38 := NB484_496.out
  have hnc38 := NB496_484.out
  have hcz39_0 : w32.cell? ⟨gb484, 0, none⟩ = some (.bool a0_0) := (blk_cell BK484.out 0).trans rfl
  have hcz39_1 : w32.cell? ⟨gb484, 1, none⟩ = some (.slice A0_1 l0_1.length c0_1) := (blk_cell BK484.out 1).trans rfl
  have hcz39_2 : w32.cell? ⟨gb484, 2, none⟩ = some (.slice A0_2 l0_2.length c0_2) := (blk_cell BK484.out 2).trans rfl
  have hfz39_0 := blk_frozen BK484.out 0
  have hfz39_1 := blk_frozen BK484.out 1
  have hfz39_2 := blk_frozen BK484.out 2
  have hnb40 := NB496_485.out
  have hnc40 := NB485_496.out
  have hnb41 := NB496_486.out
  have hnc41 := NB486_496.out
  have hcz42_0 : w32.cell? ⟨gb496, 0, none⟩ = some (.bool false) := (blk_cell BK496.out 0).trans rfl
  have hcz42_1 : w32.cell? ⟨gb496, 1, none⟩ = some (.slice none 0 0) := (blk_cell BK496.out 1).trans rfl
  have hcz42_2 : w32.cell? ⟨gb496, 2, none⟩ = some (.slice none 0 0) := (blk_cell BK496.out 2).trans rfl
  have hfz42_0 := blk_frozen BK496.out 0
  have hfz42_1 := blk_frozen BK496.out 1
  have hfz42_2 := blk_frozen BK496.out 2
  try go_wp2_with (first | ((with_reducible refine gate_callee (f := 32) rfl ?_); refine Short.goesS_ (some 23) Try.func32 #[.agg #[.bool a0_0, .slice A0_1 l0_1.length c0_1, .slice A0_2 l0_2.length c0_2], .agg #[.bool t492, .slice Ao33 t493.length co33, .slice A1_1 l1_1.length c1_1]] ?_; (with_reducible refine (rat_Mul.calls k a0_0 _ _ l0_1 _ _ l0_2 t492 _ _ t493 _ _ l1_1 t497 t498 t501 _ ?side1 HC0_1.out ?side3 HC0_2.out ?side5 ?side6 ?side7 ?side8 A17.out).mono ?_); (case side1 => exact Kd.C_below HR0_1.out (by repeat (first | (with_reducible first | exact HB.out | apply below_alloc | apply pw_below_drewN | apply below_drew1 | refine below_set ?_ GE484.out | refine below_set ?_ GE485.out | refine below_set ?_ GE486.out | refine below_set ?_ GE496.out) | exact HB.out))); (case side3 => exact Kd.C_below HR0_2.out (by repeat (first | (with_reducible first | exact HB.out | apply below_alloc | apply pw_below_drewN | apply below_drew1 | refine below_set ?_ GE484.out | refine below_set ?_ GE485.out | refine below_set ?_ GE486.out | refine below_set ?_ GE496.out) | exact HB.out))); (case side5 => refine (Kd.R_reads' (e := 89) (base := w.heap.size) (ok := fun k_ => True) (n := t493.length) (c := co33) ?_).2.2; exact (by (with_reducible repeat (first | apply Kd.R_alloc | apply Kd.R_drewN | apply Kd.R_drew)); exact (Kd.R_mono (Kd.R_far (p := ⟨gb496, 2, none⟩) (Kd.R_far (p := ⟨gb496, 1, none⟩) (Kd.R_far (p := ⟨gb496, 0, none⟩) (Kd.R_types HO495.out BK496.out (by decide)) (fun _ hk => hk.2) (.bool t492)) (fun _ hk => hk.2) (.slice Ao33 t493.length co33)) (fun _ hk => hk.2) (.slice A1_1 l1_1.length c1_1)) (fun _ h_ => h_.1)))); (case side6 => exact (Kd.R_reads' HO495.out).2.1); (case side7 => exact Kd.C_below HR1_1.out (by repeat (first | (with_reducible first | exact HB.out | apply below_alloc | apply pw_below_drewN | apply below_drew1 | refine below_set ?_ GE484.out | refine below_set ?_ GE485.out | refine below_set ?_ GE486.out | refine below_set ?_ GE496.out) | exact HB.out))); (case side8 => exact HC1_1.out); rintro e w43 ⟨v499, v502, rfl, ho0, ho1, hb⟩; refine ⟨_, rfl, ?_⟩; replace HO491 := Aside0.mk (Kd.V_mono (Kd.V_told (Kd.V_told (Kd.V_old (by (with_reducible repeat (first | apply Kd.V_alloc | apply Kd.V_drewN | apply Kd.V_drew)); exact (Kd.V_mono (Kd.V_far (p := ⟨gb496, 2, none⟩) (Kd.V_far (p := ⟨gb496, 1, none⟩) (Kd.V_far (p := ⟨gb496, 0, none⟩) (Kd.V_mono HO491.out (fun k_ hk => (⟨hk, hk.2.2.2.2⟩ : _ ∧ k_ ≠ gb496))) (fun _ hk => hk.2) (.bool t492)) (fun _ hk => hk.2) (.slice Ao33 t493.length co33)) (fun _ hk => hk.2) (.slice A1_1 l1_1.length c1_1)) (fun _ h_ => h_.1))) hb) (Kd.R_base ho0)) (Kd.R_base ho1)) (fun _ h_ => h_.1)); have HO500 := Aside0.mk (Kd.R_lower (Kd.R_new' ho0 (Kd.R_lt (by (with_reducible repeat (first | apply Kd.R_alloc | apply Kd.R_drewN | apply Kd.R_drew)); exact (Kd.R_mono (Kd.R_far (p := ⟨gb496, 2, none⟩) (Kd.R_far (p := ⟨gb496, 1, none⟩) (Kd.R_far (p := ⟨gb496, 0, none⟩) (Kd.R_types HO495.out BK496.out (by decide)) (fun _ hk => hk.2) (.bool t492)) (fun _ hk => hk.2) (.slice Ao33 t493.length co33)) (fun _ hk => hk.2) (.slice A1_1 l1_1.length c1_1)) (fun _ h_ => h_.1))))) (Short.sizeA_ (w := w))); have HO503 := Aside0.mk (Kd.R_lower (Kd.R_new' ho1 (Kd.R_lt (by (with_reducible repeat (first | apply Kd.R_alloc | apply Kd.R_drewN | apply Kd.R_drew)); exact (Kd.R_mono (Kd.R_far (p := ⟨gb496, 2, none⟩) (Kd.R_far (p := ⟨gb496, 1, none⟩) (Kd.R_far (p := ⟨gb496, 0, none⟩) (Kd.R_types HO495.out BK496.out (by decide)) (fun _ hk => hk.2) (.bool t492)) (fun _ hk => hk.2) (.slice Ao33 t493.length co33)) (fun _ hk => hk.2) (.slice A1_1 l1_1.length c1_1)) (fun _ h_ => h_.1))))) (Short.sizeA_ (w := w))); replace HO495 := Aside0.mk (Kd.R_mono (Kd.R_told (Kd.R_told (Kd.R_old (by (with_reducible repeat (first | apply Kd.R_alloc | apply Kd.R_drewN | apply Kd.R_drew)); exact (Kd.R_mono (Kd.R_far (p := ⟨gb496, 2, none⟩) (Kd.R_far (p := ⟨gb496, 1, none⟩) (Kd.R_far (p := ⟨gb496, 0, none⟩) (Kd.R_types HO495.out BK496.out (by decide)) (fun _ hk => hk.2) (.bool t492)) (fun _ hk => hk.2) (.slice Ao33 t493.length co33)) (fun _ hk => hk.2) (.slice A1_1 l1_1.length c1_1)) (fun _ h_ => h_.1))) hb) (Kd.R_base ho0)) (Kd.R_base ho1)) (fun _ h_ => h_.1)); replace BK484 := Aside0.mk (blk_below (g := gb484) (o := .cells #[.bool a0_0, .slice A0_1 l0_1.length c0_1, .slice A0_2 l0_2.length c0_2] 27 (0, 0)) (by (with_reducible repeat (first | refine blk_drewN ?_ _ | refine blk_drew ?_ | refine blk_alloc ?_ _)); refine blk_far ?_ NB484_496.out _; (with_reducible repeat (first | refine blk_drewN ?_ _ | refine blk_drew ?_ | refine blk_alloc ?_ _)); refine blk_far ?_ NB484_496.out _; (with_reducible repeat (first | refine blk_drewN ?_ _ | refine blk_drew ?_ | refine blk_alloc ?_ _)); refine blk_far ?_ NB484_496.out _; (with_reducible repeat (first | refine blk_drewN ?_ _ | refine blk_drew ?_ | refine blk_alloc ?_ _)); exact BK484.out) hb); replace BK485 := Aside0.mk (blk_below (g := gb485) (o := .cells #[.bool a1_0, .slice A1_1 l1_1.length c1_1, .slice A1_2 l1_2.length c1_2] 27 (0, 0)) (by (with_reducible repeat (first | refine blk_drewN ?_ _ | refine blk_drew ?_ | refine blk_alloc ?_ _)); refine blk_far ?_ NB485_496.out _; (with_reducible repeat (first | refine blk_drewN ?_ _ | refine blk_drew ?_ | refine blk_alloc ?_ _)); refine blk_far ?_ NB485_496.out _; (with_reducible repeat (first | refine blk_drewN ?_ _ | refine blk_drew ?_ | refine blk_alloc ?_ _)); refine blk_far ?_ NB485_496.out _; (with_reducible repeat (first | refine blk_drewN ?_ _ | refine blk_drew ?_ | refine blk_alloc ?_ _)); exact BK485.out) hb); replace BK486 := Aside0.mk (blk_below (g := gb486) (o := .cells #[.bool false, .slice none 0 0, .slice none 0 0] 27 (0, 0)) (by (with_reducible repeat (first | refine blk_drewN ?_ _ | refine blk_drew ?_ | refine blk_alloc ?_ _)); refine blk_far ?_ NB486_496.out _; (with_reducible repeat (first | refine blk_drewN ?_ _ | refine blk_drew ?_ | refine blk_alloc ?_ _)); refine blk_far ?_ NB486_496.out _; (with_reducible repeat (first | refine blk_drewN ?_ _ | refine blk_drew ?_ | refine blk_alloc ?_ _)); refine blk_far ?_ NB486_496.out _; (with_reducible repeat (first | refine blk_drewN ?_ _ | refine blk_drew ?_ | refine blk_alloc ?_ _)); exact BK486.out) hb); replace BK496 := Aside0.mk (blk_below (g := gb496) (o := .cells #[.bool t492, .slice Ao33 t493.length co33, .slice A1_1 l1_1.length c1_1] 27 (0, 0)) (by (with_reducible repeat (first | refine blk_drewN ?_ _ | refine blk_drew ?_ | refine blk_alloc ?_ _)); refine blk_put (cs := #[.bool t492, .slice Ao33 t493.length co33, .slice none 0 0]) ?_ 2 _ rfl; (with_reducible repeat (first | refine blk_drewN ?_ _ | refine blk_drew ?_ | refine blk_alloc ?_ _)); refine blk_put (cs := #[.bool t492, .slice none 0 0, .slice none 0 0]) ?_ 1 _ rfl; (with_reducible repeat (first | refine blk_drewN ?_ _ | refine blk_drew ?_ | refine blk_alloc ?_ _)); refine blk_put (cs := #[.bool false, .slice none 0 0, .slice none 0 0]) ?_ 0 _ rfl; (with_reducible repeat (first | refine blk_drewN ?_ _ | refine blk_drew ?_ | refine blk_alloc ?_ _)); exact BK496.out) hb); replace HB := Short.stepB_ (w := w) hb; (try clear hb); (try clear ho0); (try clear ho1); have hcz44_0 : w43.cell? ⟨gb486, 0, none⟩ = some (.bool false) := (blk_cell BK486.out 0).trans rfl; have hcz44_1 : w43.cell? ⟨gb486, 1, none⟩ = some (.slice none 0 0) := (blk_cell BK486.out 1).trans rfl; have hcz44_2 : w43.cell? ⟨gb486, 2, none⟩ = some (.slice none 0 0) := (blk_cell BK486.out 2).trans rfl; have hfz44_0 := blk_frozen BK486.out 0; have hfz44_1 := blk_frozen BK486.out 1; have hfz44_2 := blk_frozen BK486.out 2; obtain ⟨Ao45, co45, eo45⟩ := Kd.R_slice HO500.out; subst eo45; obtain ⟨Ao46, co46, eo46⟩ := Kd.R_slice HO503.out; subst eo46))
  refine bodyPost_ret (results_ct rfl _ _ gb486 27 #[.bool t497, .slice Ao45 t498.length co45, .slice Ao46 t501.length co46] (0, 0) _ rfl (by (with_reducible repeat (first | refine blk_drewN ?_ _ | refine blk_drew ?_ | refine blk_alloc ?_ _)); refine blk_put (cs := #[.bool t497, .slice Ao45 t498.length co45, .slice none 0 0]) ?_ 2 _ rfl; (with_reducible repeat (first | refine blk_drewN ?_ _ | refine blk_drew ?_ | refine blk_alloc ?_ _)); refine blk_put (cs := #[.bool t497, .slice none 0 0, .slice none 0 0]) ?_ 1 _ rfl; (with_reducible repeat (first | refine blk_drewN ?_ _ | refine blk_drew ?_ | refine blk_alloc ?_ _)); refine blk_put (cs := #[.bool false, .slice none 0 0, .slice none 0 0]) ?_ 0 _ rfl; (with_reducible repeat (first | refine blk_drewN ?_ _ | refine blk_drew ?_ | refine blk_alloc ?_ _)); exact BK486.out) Try.underlying27 rfl (by kernel_rfl)) rfl ?_
  exact ⟨_, _, by rfl, by (with_reducible repeat (first | apply Kd.R_alloc | apply Kd.R_drewN | apply Kd.R_drew)); exact Kd.R_mono (Kd.R_far (p := ⟨gb486, 2, none⟩) (Kd.R_far (p := ⟨gb486, 1, none⟩) (Kd.R_far (p := ⟨gb486, 0, none⟩) (Kd.R_types HO500.out BK486.out (by decide)) (fun _ hk => hk.2) (.bool t497)) (fun _ hk => hk.2) (.slice Ao45 t498.length co45)) (fun _ hk => hk.2) (.slice Ao46 t501.length co46)) (fun _ hk => hk.1.1), by (with_reducible repeat (first | apply Kd.R_alloc | apply Kd.R_drewN | apply Kd.R_drew)); exact Kd.R_mono (Kd.R_far (p := ⟨gb486, 2, none⟩) (Kd.R_far (p := ⟨gb486, 1, none⟩) (Kd.R_far (p := ⟨gb486, 0, none⟩) (Kd.R_types HO503.out BK486.out (by decide)) (fun _ hk => hk.2) (.bool t497)) (fun _ hk => hk.2) (.slice Ao45 t498.length co45)) (fun _ hk => hk.2) (.slice Ao46 t501.length co46)) (fun _ hk => hk.1.1), by repeat (first | (with_reducible first | exact HB.out | apply below_alloc | apply pw_below_drewN | apply below_drew1 | refine below_set ?_ GE484.out | refine below_set ?_ GE485.out | refine below_set ?_ GE486.out | refine below_set ?_ GE496.out) | exact HB.out)⟩

theorem rat_Div.sz {b : Rat} (h : b.num.sign = 0) : b = 0 := by
 have h1 : b.num = 0 := by
  rcases Zn.sign_cases b.num with ⟨_, e⟩ | ⟨e0, _⟩ | ⟨_, e⟩
  ·rw [e] at h; exact absurd h (by decide)
  ·exact e0
  ·rw [e] at h; exact absurd h (by decide)
 exact Rat.num_eq_zero.1 h1
theorem rat_Div.ev0 {m m' : Bool} {l1 l2 k1 k2 : List Int} {b : Rat} {J : Nat} (hb : Qn.Is m' k1 k2 b J) (hK : J < 300000) (h0 : b = 0) : Ev (fun k => rat_Div.f k m l1 l2 m' k1 k2) (false, [], [], 5) := by
 have S := rat_Sign.ev hb (by omega)
 unfold rat_Div.f
 refine Ev.bind S (Dec.yes ?_ (Ev.now _))
 rw [h0]
 rfl
theorem rat_Div.ev {m m' : Bool} {l1 l2 k1 k2 : List Int} {a b : Rat} {K J : Nat} (ha : Qn.Is m l1 l2 a K) (hb : Qn.Is m' k1 k2 b J) (hK1 : 1 ≤ K) (hJ1 : 1 ≤ J) (hK : K + J < 300000) (h0 : b ≠ 0) :
  Ev (fun k => rat_Div.f k m l1 l2 m' k1 k2) ((Qn.qd (a / b)).1, (Qn.qd (a / b)).2.1, (Qn.qd (a / b)).2.2, 0) := by
 have db := Qn.dn_lt hb.ws hb.len hJ1
 have lb := hb.len
 have S := rat_Sign.ev hb (by omega)
 have sg : b.num.sign = (Zn.zv m' (Num.nv k1)).sign := by
  have := Qn.sign_num (Zn.zv m' (Num.nv k1)) (Qn.dn (Num.nv k2)) (Qn.dn_ne _)
  rwa [hb.val] at this
 obtain ⟨s, hs⟩ : ∃ s, s = decide (b.num.sign < 0) := ⟨_, rfl⟩
 have I : Zn.Is s (Qn.dl k2) (Zn.zv s (Qn.dn (Num.nv k2))) J := ⟨Qn.ws_dl hb.ws, Qn.len_dl lb hJ1, by rw [Qn.nv_dl]⟩
 have p0 : Num.nv k1 ≠ 0 := by
  intro e
  apply h0
  apply rat_Div.sz
  rw [sg, e, Zn.zv_zero]
  rfl
 have T : Qn.Is (Zn.zd (Zn.zv s (Qn.dn (Num.nv k2)))).1 (Zn.zd (Zn.zv s (Qn.dn (Num.nv k2)))).2 k1 b⁻¹ J := by
  have Z := Zn.Is.zd I.lt
  refine ⟨?_, hb.num.ws, hb.num.len, ?_⟩
  ·rw [Z.val]
   exact Z
  ·rw [Z.val, Qn.dn_self p0, ← hb.val, Qn.inv_mk, Zn.natAbs_zv, hs, sg]
   congr 2
   exact decide_eq_decide.2 (Zn.sign_lt _)
 have M := rat_Mul.ev ha T hK1 hJ1 (by omega)
 rw [← Rat.div_def] at M
 unfold rat_Div.f
 refine Ev.bind S (Dec.no (fun e => h0 (rat_Div.sz e)) (Ev.bind S (Ev.bind (rat_den.ev hb.ws (by omega)) ?_)))
 rw [← hs]
 exact Ev.bind (whole_Make.ev I (by omega)) (Ev.bind M (Ev.now _))
/-! ### rat_Int: function 25 -/
def rat_Int.f (k : Nat) (a0 : Int) : Option (Bool × List Int × List Int) := (whole_Of.f k a0).bind fun bt505 => ((nat_Of.f k 1).bind fun t509 => ((rat_Make.f k bt505.1 bt505.2 t509).bind fun bt512 => (some (bt512.1, bt512.2.1, bt512.2.2))))
set_option maxHeartbeats 8000000 in
set_option maxRecDepth 100000 in
theorem rat_Int.calls (k : Nat) (a0 : Int) (r1 : Bool) (r2 : List Int) (r3 : List Int) (w : World) (h : rat_Int.f k a0 = some (r1, r2, r3)) :
  Calls Try.prog 25 #[.int .i64 a0] w fun e w' => ∃ v1_ v2_ : Value, e = .returned (.agg #[.bool r1, v1_, v2_]) ∧ Kd.R (Kd.int .u32) 89 w' w.heap.size (fun k_ => some k_ ≠ (v2_ : Value).ownBlock) v1_ r2 ∧ Kd.R (Kd.int .u32) 89 w' w.heap.size (fun k_ => some k_ ≠ (v1_ : Value).ownBlock) v2_ r3 ∧ Below w.heap.size w w' := by
 have hu27 := Try.underlying27
 have HB := Aside0.mk (Below.refl w.heap.size w)
 have H : ((whole_Of.f k a0).bind fun bt505 => ((nat_Of.f k 1).bind fun t509 => ((rat_Make.f k bt505.1 bt505.2 t509).bind fun bt512 => (some (bt512.1, bt512.2.1, bt512.2.2))))) = some (r1, r2, r3) := h
 clear h
 replace H := Option.bind_eq_some_iff.mp H
 obtain ⟨⟨t505, t506⟩, A20, H⟩ := H
 try dsimp only at H
 have A2 := Aside0.mk A20
 clear A20
 replace H := Option.bind_eq_some_iff.mp H
 obtain ⟨t509, A30, H⟩ := H
 try dsimp only at H
 have A3 := Aside0.mk A30
 clear A30
 replace H := Option.bind_eq_some_iff.mp H
 obtain ⟨⟨t512, t513, t516⟩, A40, H⟩ := H
 replace H : (some (t512, t513, t516)) = some (r1, r2, r3) := H
 have A4 := Aside0.mk A40
 clear A40
 simp only [Option.some.injEq, Prod.mk.injEq] at H
 obtain ⟨rfl, rfl, rfl⟩ := H
 go_enter Try.func25, Try.ntmps25
 go_wp2_with (first | ((with_reducible refine gate_dst (N := 2) rfl ?_); refine Short.boxS_ (N := 2) (cs := #[.bool false, .slice none 0 0, .slice none 0 0]) (t := 27) ?_; intro gb504 hg w5 hbox hb; have BK504 := Aside0.mk (hbox); have GW504 := Aside0.mk ((by rw [hg]; exact (below_size (by repeat (first | (with_reducible first | exact HB.out | apply below_alloc | apply pw_below_drewN | apply below_drew1) | exact HB.out))) : w.heap.size ≤ gb504)); have GE504 := Aside0.mk ((by rw [hg]; exact (below_size (by repeat (first | (with_reducible first | exact HB.out | apply below_alloc | apply pw_below_drewN | apply below_drew1) | exact HB.out))) : w.heap.size ≤ gb504)); replace HB := Aside0.mk (below_step (by repeat (first | (with_reducible first | exact HB.out | apply below_alloc | apply pw_below_drewN | apply below_drew1) | exact HB.out)) hb); clear hb hbox hg) | ((with_reducible refine gate_callee (f := 26) rfl ?_); refine Short.goesS_ (some 4) Try.func26 #[.int .i64 a0] ?_; (with_reducible refine (whole_Of.calls k a0 t505 t506 _ A2.out).mono ?_); rintro e w6 ⟨v507, rfl, ho0, hb⟩; refine ⟨_, rfl, ?_⟩; have HO508 := Aside0.mk (Kd.R_lower ho0 (below_size HB.out)); replace BK504 := Aside0.mk (blk_below BK504.out hb); replace HB := Aside0.mk (below_step HB.out hb); (try clear hb); (try clear ho0)) | ((with_reducible refine gate_callee (f := 37) rfl ?_); refine Short.goesS_ (some 5) Try.func37 #[.int .u64 1] ?_; (with_reducible refine (nat_Of.calls k 1 t509 _ A3.out).mono ?_); rintro e w7 ⟨v510, rfl, ho0, hb⟩; refine ⟨_, rfl, ?_⟩; have HO511 := Aside0.mk (Kd.R_lower (Kd.R_new' ho0 (Kd.R_lt HO508.out)) (below_size HB.out)); replace HO508 := Aside0.mk (Kd.R_elder' HO508.out (Kd.R_base ho0) hb); replace BK504 := Aside0.mk (blk_below BK504.out hb); replace HB := Aside0.mk (below_step HB.out hb); (try clear hb); (try clear ho0); obtain ⟨Ao8, co8, eo8⟩ := Kd.R_slice HO508.out; subst eo8; obtain ⟨Ao9, co9, eo9⟩ := Kd.R_slice HO511.out; subst eo9) | ((with_reducible refine gate_callee (f := 36) rfl ?_); refine Short.goesS_ (some 6) Try.func36 #[.agg #[.bool t505, .slice Ao8 t506.length co8], .slice Ao9 t509.length co9] ?_; (with_reducible refine (rat_Make.calls k t505 _ _ t506 _ _ t509 t512 t513 t516 _ ((Kd.R_reads' HO508.out).2.2) ((Kd.R_reads' HO508.out).2.1) ((Kd.R_reads' HO511.out).2.2) ((Kd.R_reads' HO511.out).2.1) A4.out).mono ?_); rintro e w10 ⟨v514, v517, rfl, ho0, ho1, hb⟩; refine ⟨_, rfl, ?_⟩; have HO515 := Aside0.mk (Kd.R_lower (Kd.R_new' (Kd.R_new' ho0 (Kd.R_lt HO508.out)) (Kd.R_lt HO511.out)) (below_size HB.out)); have HO518 := Aside0.mk (Kd.R_lower (Kd.R_new' (Kd.R_new' ho1 (Kd.R_lt HO508.out)) (Kd.R_lt HO511.out)) (below_size HB.out)); replace HO508 := Aside0.mk (Kd.R_mono (Kd.R_told (Kd.R_told (Kd.R_old HO508.out hb) (Kd.R_base ho0)) (Kd.R_base ho1)) (fun _ h_ => h_.1)); replace HO511 := Aside0.mk (Kd.R_mono (Kd.R_told (Kd.R_told (Kd.R_old HO511.out hb) (Kd.R_base ho0)) (Kd.R_base ho1)) (fun _ h_ => h_.1)); replace BK504 := Aside0.mk (blk_below BK504.out hb); replace HB := Aside0.mk (below_step HB.out hb); (try clear hb); (try clear ho0); (try clear ho1); have hcz11_0 : w10.cell? ⟨gb504, 0, none⟩ = some (.bool false) := (blk_cell BK504.out 0).trans rfl; have hcz11_1 : w10.cell? ⟨gb504, 1, none⟩ = some (.slice none 0 0) := (blk_cell BK504.out 1).trans rfl; have hcz11_2 : w10.cell? ⟨gb504, 2, none⟩ = some (.slice none 0 0) := (blk_cell BK504.out 2).trans rfl; have hfz11_0 := blk_frozen BK504.out 0; have hfz11_1 := blk_frozen BK504.out 1; have hfz11_2 := blk_frozen BK504.out 2; obtain ⟨Ao12, co12, eo12⟩ := Kd.R_slice HO515.out; subst eo12; obtain ⟨Ao13, co13, eo13⟩ := Kd.R_slice HO518.out; subst eo13))
 refine bodyPost_ret (results_cell_row rfl _ _ gb504 27 #[.bool t512, .slice Ao12 t513.length co12, .slice Ao13 t516.length co13] (0, 0) _ rfl (by (with_reducible repeat (first | refine blk_drewN ?_ _ | refine blk_drew ?_ | refine blk_alloc ?_ _)); refine blk_put (cs := #[.bool t512, .slice Ao12 t513.length co12, .slice none 0 0]) ?_ 2 _ rfl; (with_reducible repeat (first | refine blk_drewN ?_ _ | refine blk_drew ?_ | refine blk_alloc ?_ _)); refine blk_put (cs := #[.bool t512, .slice none 0 0, .slice none 0 0]) ?_ 1 _ rfl; (with_reducible repeat (first | refine blk_drewN ?_ _ | refine blk_drew ?_ | refine blk_alloc ?_ _)); refine blk_put (cs := #[.bool false, .slice none 0 0, .slice none 0 0]) ?_ 0 _ rfl; (with_reducible repeat (first | refine blk_drewN ?_ _ | refine blk_drew ?_ | refine blk_alloc ?_ _)); exact BK504.out) Try.underlying27 rfl (by kernel_rfl)) rfl ?_
 exact ⟨_, _, by rfl, by (with_reducible repeat (first | apply Kd.R_alloc | apply Kd.R_drewN | apply Kd.R_drew)); exact Kd.R_mono (Kd.R_far (p := ⟨gb504, 2, none⟩) (Kd.R_far (p := ⟨gb504, 1, none⟩) (Kd.R_far (p := ⟨gb504, 0, none⟩) (Kd.R_types HO515.out BK504.out (by decide)) (fun _ hk => hk.2) (.bool t512)) (fun _ hk => hk.2) (.slice Ao12 t513.length co12)) (fun _ hk => hk.2) (.slice Ao13 t516.length co13)) (fun _ hk => hk.1.1.1), by (with_reducible repeat (first | apply Kd.R_alloc | apply Kd.R_drewN | apply Kd.R_drew)); exact Kd.R_mono (Kd.R_far (p := ⟨gb504, 2, none⟩) (Kd.R_far (p := ⟨gb504, 1, none⟩) (Kd.R_far (p := ⟨gb504, 0, none⟩) (Kd.R_types HO518.out BK504.out (by decide)) (fun _ hk => hk.2) (.bool t512)) (fun _ hk => hk.2) (.slice Ao12 t513.length co12)) (fun _ hk => hk.2) (.slice Ao13 t516.length co13)) (fun _ hk => hk.1.1.1), by repeat (first | (with_reducible first | exact HB.out | apply below_alloc | apply pw_below_drewN | apply below_drew1 | refine below_set ?_ GE504.out) | exact HB.out)⟩

theorem rat_Int.ev (n : Int) (h0 : -9223372036854775808 ≤ n) (h1 : n < 9223372036854775808) : Ev (fun k => rat_Int.f k n) (Qn.qd (n : Rat)) := by
 have M := rat_Make.ev (Zn.Is.zd (z := n) (K := 2) (by omega)) (Num.Ws_nd 1) (Num.nd_length_le (n := 1) (k := 2) (by decide)) (by omega) (by omega)
 rw [Num.nv_nd, Qn.dn_self (by decide), Qn.mk_one] at M
 unfold rat_Int.f
 exact Ev.bind (whole_Of.ev n h0 h1) (Ev.bind (nat_Of.ev 1 (by omega)) (Ev.bind M (Ev.now _)))
/-! ### rat_Of: function 24 -/
def rat_Of.f (k : Nat) (a0 : Int) (a1 : Int) : Option (Bool × List Int × List Int × Int) := (rat_Int.f k a0).bind fun bt520 => ((rat_Int.f k a1).bind fun bt527 => ((rat_Div.f k bt520.1 bt520.2.1 bt520.2.2 bt527.1 bt527.2.1 bt527.2.2).bind fun bt534 => (some (bt534.1, bt534.2.1, bt534.2.2.1, bt534.2.2.2))))
set_option maxHeartbeats 8000000 in
set_option maxRecDepth 100000 in
theorem rat_Of.calls (k : Nat) (a0 : Int) (a1 : Int) (r1 : Bool) (r2 : List Int) (r3 : List Int) (r4 : Int) (w : World) (h : rat_Of.f k a0 a1 = some (r1, r2, r3, r4)) :
  Calls Try.prog 24 #[.int .i64 a0, .int .i64 a1] w fun e w' => ∃ v1_ v2_ : Value, e = .returned (.tuple #[.agg #[.bool r1, v1_, v2_], .int .i64 r4]) ∧ Kd.R (Kd.int .u32) 89 w' w.heap.size (fun k_ => some k_ ≠ (v2_ : Value).ownBlock) v1_ r2 ∧ Kd.R (Kd.int .u32) 89 w' w.heap.size (fun k_ => some k_ ≠ (v1_ : Value).ownBlock) v2_ r3 ∧ Below w.heap.size w w' := by
 have hu27 := Try.underlying27
 have HB := Aside0.mk (Below.refl w.heap.size w)
 have H : ((rat_Int.f k a0).bind fun bt520 => ((rat_Int.f k a1).bind fun bt527 => ((rat_Div.f k bt520.1 bt520.2.1 bt520.2.2 bt527.1 bt527.2.1 bt527.2.2).bind fun bt534 => (some (bt534.1, bt534.2.1, bt534.2.2.1, bt534.2.2.2))))) = some (r1, r2, r3, r4) := h
 clear h
 replace H := Option.bind_eq_some_iff.mp H
 obtain ⟨⟨t520, t521, t524⟩, A30, H⟩ := H
 try dsimp only at H
 have A3 := Aside0.mk A30
 clear A30
 replace H := Option.bind_eq_some_iff.mp H
 obtain ⟨⟨t527, t528, t531⟩, A40, H⟩ := H
 try dsimp only at H
 have A4 := Aside0.mk A40
 clear A40
 replace H := Option.bind_eq_some_iff.mp H
 obtain ⟨⟨t534, t535, t538, t541⟩, A50, H⟩ := H
 replace H : (some (t534, t535, t538, t541)) = some (r1, r2, r3, r4) := H
 have A5 := Aside0.mk A50
 clear A50
 simp only [Option.some.injEq, Prod.mk.injEq] at H
 obtain ⟨rfl, rfl, rfl, rfl⟩ := H
 go_enter Try.func24, Try.ntmps24
 go_wp2_with (first | ((with_reducible refine gate_dst (N := 4) rfl ?_); refine Short.boxS_ (N := 4) (cs := #[.bool false, .slice none 0 0, .slice none 0 0]) (t := 27) ?_; intro gb519 hg w6 hbox hb; have BK519 := Aside0.mk (hbox); have GW519 := Aside0.mk ((by rw [hg]; exact (below_size (by repeat (first | (with_reducible first | exact HB.out | apply below_alloc | apply pw_below_drewN | apply below_drew1) | exact HB.out))) : w.heap.size ≤ gb519)); have GE519 := Aside0.mk ((by rw [hg]; exact (below_size (by repeat (first | (with_reducible first | exact HB.out | apply below_alloc | apply pw_below_drewN | apply below_drew1) | exact HB.out))) : w.heap.size ≤ gb519)); replace HB := Aside0.mk (below_step (by repeat (first | (with_reducible first | exact HB.out | apply below_alloc | apply pw_below_drewN | apply below_drew1) | exact HB.out)) hb); clear hb hbox hg) | ((with_reducible refine gate_callee (f := 25) rfl ?_); refine Short.goesS_ (some 7) Try.func25 #[.int .i64 a0] ?_; (with_reducible refine (rat_Int.calls k a0 t520 t521 t524 _ A3.out).mono ?_); rintro e w7 ⟨v522, v525, rfl, ho0, ho1, hb⟩; refine ⟨_, rfl, ?_⟩; have HO523 := Aside0.mk (Kd.R_lower ho0 (below_size HB.out)); have HO526 := Aside0.mk (Kd.R_lower ho1 (below_size HB.out)); replace BK519 := Aside0.mk (blk_below BK519.out hb); replace HB := Aside0.mk (below_step HB.out hb); (try clear hb); (try clear ho0); (try clear ho1)) | ((with_reducible refine gate_callee (f := 25) rfl ?_); refine Short.goesS_ (some 9) Try.func25 #[.int .i64 a1] ?_; (with_reducible refine (rat_Int.calls k a1 t527 t528 t531 _ A4.out).mono ?_); rintro e w8 ⟨v529, v532, rfl, ho0, ho1, hb⟩; refine ⟨_, rfl, ?_⟩; have HO530 := Aside0.mk (Kd.R_lower (Kd.R_new' (Kd.R_new' ho0 (Kd.R_lt HO523.out)) (Kd.R_lt HO526.out)) (below_size HB.out)); have HO533 := Aside0.mk (Kd.R_lower (Kd.R_new' (Kd.R_new' ho1 (Kd.R_lt HO523.out)) (Kd.R_lt HO526.out)) (below_size HB.out)); replace HO523 := Aside0.mk (Kd.R_mono (Kd.R_told (Kd.R_told (Kd.R_old HO523.out hb) (Kd.R_base ho0)) (Kd.R_base ho1)) (fun _ h_ => h_.1)); replace HO526 := Aside0.mk (Kd.R_mono (Kd.R_told (Kd.R_told (Kd.R_old HO526.out hb) (Kd.R_base ho0)) (Kd.R_base ho1)) (fun _ h_ => h_.1)); replace BK519 := Aside0.mk (blk_below BK519.out hb); replace HB := Aside0.mk (below_step HB.out hb); (try clear hb); (try clear ho0); (try clear ho1); obtain ⟨Ao9, co9, eo9⟩ := Kd.R_slice HO523.out; subst eo9; obtain ⟨Ao10, co10, eo10⟩ := Kd.R_slice HO526.out; subst eo10; obtain ⟨Ao11, co11, eo11⟩ := Kd.R_slice HO530.out; subst eo11; obtain ⟨Ao12, co12, eo12⟩ := Kd.R_slice HO533.out; subst eo12) | ((with_reducible refine gate_callee (f := 12) rfl ?_); refine Short.goesS_ (some 10) Try.func12 #[.agg #[.bool t520, .slice Ao9 t521.length co9, .slice Ao10 t524.length co10], .agg #[.bool t527, .slice Ao11 t528.length co11, .slice Ao12 t531.length co12]] ?_; (with_reducible refine (rat_Div.calls k t520 _ _ t521 _ _ t524 t527 _ _ t528 _ _ t531 t534 t535 t538 t541 _ ((Kd.R_reads' HO523.out).2.2) ((Kd.R_reads' HO523.out).2.1) ((Kd.R_reads' HO526.out).2.2) ((Kd.R_reads' HO526.out).2.1) ((Kd.R_reads' HO530.out).2.2) ((Kd.R_reads' HO530.out).2.1) ((Kd.R_reads' HO533.out).2.2) ((Kd.R_reads' HO533.out).2.1) A5.out).mono ?_); rintro e w13 ⟨v536, v539, rfl, ho0, ho1, hb⟩; refine ⟨_, rfl, ?_⟩; have HO537 := Aside0.mk (Kd.R_lower (Kd.R_new' (Kd.R_new' (Kd.R_new' (Kd.R_new' ho0 (Kd.R_lt HO523.out)) (Kd.R_lt HO526.out)) (Kd.R_lt HO530.out)) (Kd.R_lt HO533.out)) (below_size HB.out)); have HO540 := Aside0.mk (Kd.R_lower (Kd.R_new' (Kd.R_new' (Kd.R_new' (Kd.R_new' ho1 (Kd.R_lt HO523.out)) (Kd.R_lt HO526.out)) (Kd.R_lt HO530.out)) (Kd.R_lt HO533.out)) (below_size HB.out)); replace HO523 := Aside0.mk (Kd.R_mono (Kd.R_told (Kd.R_told (Kd.R_old HO523.out hb) (Kd.R_base ho0)) (Kd.R_base ho1)) (fun _ h_ => h_.1)); replace HO526 := Aside0.mk (Kd.R_mono (Kd.R_told (Kd.R_told (Kd.R_old HO526.out hb) (Kd.R_base ho0)) (Kd.R_base ho1)) (fun _ h_ => h_.1)); replace HO530 := Aside0.mk (Kd.R_mono (Kd.R_told (Kd.R_told (Kd.R_old HO530.out hb) (Kd.R_base ho0)) (Kd.R_base ho1)) (fun _ h_ => h_.1)); replace HO533 := Aside0.mk (Kd.R_mono (Kd.R_told (Kd.R_told (Kd.R_old HO533.out hb) (Kd.R_base ho0)) (Kd.R_base ho1)) (fun _ h_ => h_.1)); replace BK519 := Aside0.mk (blk_below BK519.out hb); replace HB := Aside0.mk (below_step HB.out hb); (try clear hb); (try clear ho0); (try clear ho1); have hcz14_0 : w13.cell? ⟨gb519, 0, none⟩ = some (.bool false) := (blk_cell BK519.out 0).trans rfl; have hcz14_1 : w13.cell? ⟨gb519, 1, none⟩ = some (.slice none 0 0) := (blk_cell BK519.out 1).trans rfl; have hcz14_2 : w13.cell? ⟨gb519, 2, none⟩ = some (.slice none 0 0) := (blk_cell BK519.out 2).trans rfl; have hfz14_0 := blk_frozen BK519.out 0; have hfz14_1 := blk_frozen BK519.out 1; have hfz14_2 := blk_frozen BK519.out 2; obtain ⟨Ao15, co15, eo15⟩ := Kd.R_slice HO537.out; subst eo15; obtain ⟨Ao16, co16, eo16⟩ := Kd.R_slice HO540.out; subst eo16))
 refine bodyPost_ret (results_ct rfl _ _ gb519 27 #[.bool t534, .slice Ao15 t535.length co15, .slice Ao16 t538.length co16] (0, 0) _ rfl (by (with_reducible repeat (first | refine blk_drewN ?_ _ | refine blk_drew ?_ | refine blk_alloc ?_ _)); refine blk_put (cs := #[.bool t534, .slice Ao15 t535.length co15, .slice none 0 0]) ?_ 2 _ rfl; (with_reducible repeat (first | refine blk_drewN ?_ _ | refine blk_drew ?_ | refine blk_alloc ?_ _)); refine blk_put (cs := #[.bool t534, .slice none 0 0, .slice none 0 0]) ?_ 1 _ rfl; (with_reducible repeat (first | refine blk_drewN ?_ _ | refine blk_drew ?_ | refine blk_alloc ?_ _)); refine blk_put (cs := #[.bool false, .slice none 0 0, .slice none 0 0]) ?_ 0 _ rfl; (with_reducible repeat (first | refine blk_drewN ?_ _ | refine blk_drew ?_ | refine blk_alloc ?_ _)); exact BK519.out) Try.underlying27 rfl (by kernel_rfl)) rfl ?_
 exact ⟨_, _, by rfl, by (with_reducible repeat (first | apply Kd.R_alloc | apply Kd.R_drewN | apply Kd.R_drew)); exact Kd.R_mono (Kd.R_far (p := ⟨gb519, 2, none⟩) (Kd.R_far (p := ⟨gb519, 1, none⟩) (Kd.R_far (p := ⟨gb519, 0, none⟩) (Kd.R_types HO537.out BK519.out (by decide)) (fun _ hk => hk.2) (.bool t534)) (fun _ hk => hk.2) (.slice Ao15 t535.length co15)) (fun _ hk => hk.2) (.slice Ao16 t538.length co16)) (fun _ hk => hk.1.1.1.1.1), by (with_reducible repeat (first | apply Kd.R_alloc | apply Kd.R_drewN | apply Kd.R_drew)); exact Kd.R_mono (Kd.R_far (p := ⟨gb519, 2, none⟩) (Kd.R_far (p := ⟨gb519, 1, none⟩) (Kd.R_far (p := ⟨gb519, 0, none⟩) (Kd.R_types HO540.out BK519.out (by decide)) (fun _ hk => hk.2) (.bool t534)) (fun _ hk => hk.2) (.slice Ao15 t535.length co15)) (fun _ hk => hk.2) (.slice Ao16 t538.length co16)) (fun _ hk => hk.1.1.1.1.1), by repeat (first | (with_reducible first | exact HB.out | apply below_alloc | apply pw_below_drewN | apply below_drew1 | refine below_set ?_ GE519.out) | exact HB.out)⟩

theorem rat_Of.sm {n : Int} (h0 : -9223372036854775808 ≤ n) (h1 : n < 9223372036854775808) : Qn.Sm (n : Rat) 2 := Qn.Sm.int (by omega) (by omega)
theorem rat_Of.ev0 {n : Int} (h0 : -9223372036854775808 ≤ n) (h1 : n < 9223372036854775808) : Ev (fun k => rat_Of.f k n 0) (false, [], [], 5) := by
 unfold rat_Of.f
 exact Ev.bind (rat_Int.ev n h0 h1) (Ev.bind (rat_Int.ev 0 (by omega) (by omega)) (Ev.bind (rat_Div.ev0 (Qn.Is.qd (rat_Of.sm (n := 0) (by omega) (by omega))) (by omega) rfl) (Ev.now _)))
theorem rat_Of.ev {n d : Int} (h0 : -9223372036854775808 ≤ n) (h1 : n < 9223372036854775808) (k0 : -9223372036854775808 ≤ d) (k1 : d < 9223372036854775808) (hd : d ≠ 0) :
  Ev (fun k => rat_Of.f k n d) ((Qn.qd ((n : Rat) / (d : Rat))).1, (Qn.qd ((n : Rat) / (d : Rat))).2.1, (Qn.qd ((n : Rat) / (d : Rat))).2.2, 0) := by
 unfold rat_Of.f
 exact Ev.bind (rat_Int.ev n h0 h1) (Ev.bind (rat_Int.ev d k0 k1) (Ev.bind (rat_Div.ev (Qn.Is.qd (rat_Of.sm h0 h1)) (Qn.Is.qd (rat_Of.sm k0 k1)) (by omega) (by omega) (by omega) (fun e => hd (Rat.intCast_eq_zero_iff.1 e))) (Ev.now _)))
/-! ### rat_Whole: function 23 -/
def rat_Whole.f (k : Nat) (a0_0 : Bool) (l0_1 : List Int) (l0_2 : List Int) : Option (Bool) := (rat_Make.f k a0_0 l0_1 l0_2).bind fun bt543 => ((nat_Of.f k 1).bind fun t550 => ((nat_Compare.f k bt543.2.2 t550).bind fun t553 => (some (t553 == 0))))
set_option maxHeartbeats 8000000 in
set_option maxRecDepth 100000 in
theorem rat_Whole.calls (k : Nat) (a0_0 : Bool) (A0_1 : Option Addr) (c0_1 : Nat) (l0_1 : List Int) (A0_2 : Option Addr) (c0_2 : Nat) (l0_2 : List Int) (r : Bool) (w : World) (hr0_1 : Kd.C (Kd.int .u32) w A0_1 l0_1.length l0_1) (hc0_1 : l0_1.length ≤ c0_1) (hr0_2 : Kd.C (Kd.int .u32) w A0_2 l0_2.length l0_2) (hc0_2 : l0_2.length ≤ c0_2) (h : rat_Whole.f k a0_0 l0_1 l0_2 = some r) :
  Calls Try.prog 23 #[.agg #[.bool a0_0, .slice A0_1 l0_1.length c0_1, .slice A0_2 l0_2.length c0_2]] w fun e w' => e = .returned (.bool r) ∧ Below w.heap.size w w' := by
 have hu27 := Try.underlying27
 have hu25 := Try.underlying25
 have HR0_1 := Aside0.mk hr0_1
 have HC0_1 := Aside0.mk hc0_1
 clear hr0_1 hc0_1
 have HR0_2 := Aside0.mk hr0_2
 have HC0_2 := Aside0.mk hc0_2
 clear hr0_2 hc0_2
 have HB := Aside0.mk (Below.refl w.heap.size w)
 have H : ((rat_Make.f k a0_0 l0_1 l0_2).bind fun bt543 => ((nat_Of.f k 1).bind fun t550 => ((nat_Compare.f k bt543.2.2 t550).bind fun t553 => (some (t553 == 0))))) = some r := h
 clear h
 replace H := Option.bind_eq_some_iff.mp H
 obtain ⟨⟨t543, t544, t547⟩, A20, H⟩ := H
 try dsimp only at H
 have A2 := Aside0.mk A20
 clear A20
 replace H := Option.bind_eq_some_iff.mp H
 obtain ⟨t550, A30, H⟩ := H
 try dsimp only at H
 have A3 := Aside0.mk A30
 clear A30
 replace H := Option.bind_eq_some_iff.mp H
 obtain ⟨t553, A40, H⟩ := H
 replace H : (some (t553 == 0)) = some r := H
 have A4 := Aside0.mk A40
 clear A40
 obtain rfl := Option.some.inj H
 have hfld : ∀ (b : Bool) (v1 v2 : Value) (W : World), (Instr.field 27 (.agg #[.bool b, v1, v2]) 1).run Try.prog W = .ok v2 W := fun _ _ _ _ => by rfl
 go_enter Try.func23, Try.ntmps23
 go_wp2_with (first | ((with_reducible refine gate_dst (N := 1) rfl ?_); refine Short.boxS_ (N := 1) (cs := #[.bool a0_0, .slice A0_1 l0_1.length c0_1, .slice A0_2 l0_2.length c0_2]) (t := 27) ?_; intro gb542 hg w5 hbox hb; have BK542 := Aside0.mk (hbox); have GW542 := Aside0.mk ((by rw [hg]; exact (below_size (by repeat (first | (with_reducible first | exact HB.out | apply below_alloc | apply pw_below_drewN | apply below_drew1) | exact HB.out))) : w.heap.size ≤ gb542)); have GE542 := Aside0.mk ((by rw [hg]; exact (below_size (by repeat (first | (with_reducible first | exact HB.out | apply below_alloc | apply pw_below_drewN | apply below_drew1) | exact HB.out))) : w.heap.size ≤ gb542)); replace HB := Aside0.mk (below_step (by repeat (first | (with_reducible first | exact HB.out | apply below_alloc | apply pw_below_drewN | apply below_drew1) | exact HB.out)) hb); clear hb hbox hg; have hcz6_0 : w5.cell? ⟨gb542, 0, none⟩ = some (.bool a0_0) := (blk_cell BK542.out 0).trans rfl; have hcz6_1 : w5.cell? ⟨gb542, 1, none⟩ = some (.slice A0_1 l0_1.length c0_1) := (blk_cell BK542.out 1).trans rfl; have hcz6_2 : w5.cell? ⟨gb542, 2, none⟩ = some (.slice A0_2 l0_2.length c0_2) := (blk_cell BK542.out 2).trans rfl; have hfz6_0 := blk_frozen BK542.out 0; have hfz6_1 := blk_frozen BK542.out 1; have hfz6_2 := blk_frozen BK542.out 2) | ((with_reducible refine gate_callee (f := 36) rfl ?_); refine Short.goesS_ (some 7) Try.func36 #[.agg #[.bool a0_0, .slice A0_1 l0_1.length c0_1], .slice A0_2 l0_2.length c0_2] ?_; (with_reducible refine (rat_Make.calls k a0_0 _ _ l0_1 _ _ l0_2 t543 t544 t547 _ (Kd.C_below HR0_1.out HB.out) HC0_1.out (Kd.C_below HR0_2.out HB.out) HC0_2.out A2.out).mono ?_); rintro e w7 ⟨v545, v548, rfl, ho0, ho1, hb⟩; refine ⟨_, rfl, ?_⟩; have HO546 := Aside0.mk (Kd.R_lower ho0 (below_size HB.out)); have HO549 := Aside0.mk (Kd.R_lower ho1 (below_size HB.out)); replace BK542 := Aside0.mk (blk_below BK542.out hb); replace HB := Aside0.mk (below_step HB.out hb); (try clear hb); (try clear ho0); (try clear ho1)) | ((with_reducible refine gate_callee (f := 37) rfl ?_); refine Short.goesS_ (some 9) Try.func37 #[.int .u64 1] ?_; (with_reducible refine (nat_Of.calls k 1 t550 _ A3.out).mono ?_); rintro e w8 ⟨v551, rfl, ho0, hb⟩; refine ⟨_, rfl, ?_⟩; have HO552 := Aside0.mk (Kd.R_lower (Kd.R_new' (Kd.R_new' ho0 (Kd.R_lt HO546.out)) (Kd.R_lt HO549.out)) (below_size HB.out)); replace HO546 := Aside0.mk (Kd.R_elder' HO546.out (Kd.R_base ho0) hb); replace HO549 := Aside0.mk (Kd.R_elder' HO549.out (Kd.R_base ho0) hb); replace BK542 := Aside0.mk (blk_below BK542.out hb); replace HB := Aside0.mk (below_step HB.out hb); (try clear hb); (try clear ho0); obtain ⟨Ao9, co9, eo9⟩ := Kd.R_slice HO549.out; subst eo9; obtain ⟨Ao10, co10, eo10⟩ := Kd.R_slice HO552.out; subst eo10) | ((with_reducible refine gate_callee (f := 62) rfl ?_); refine Short.goesS_ (some 10) Try.func62 #[.slice Ao9 t547.length co9, .slice Ao10 t550.length co10] ?_; (with_reducible refine (nat_Compare.calls k _ _ t547 _ _ t550 t553 _ ((Kd.R_reads' HO549.out).2.2) ((Kd.R_reads' HO549.out).2.1) ((Kd.R_reads' HO552.out).2.2) ((Kd.R_reads' HO552.out).2.1) A4.out).mono ?_); rintro e w11 ⟨rfl, hb⟩; refine ⟨_, rfl, ?_⟩; replace HO546 := Aside0.mk (Kd.R_below HO546.out hb); replace HO549 := Aside0.mk (Kd.R_below HO549.out hb); replace HO552 := Aside0.mk (Kd.R_below HO552.out hb); replace BK542 := Aside0.mk (blk_below BK542.out hb); replace HB := Aside0.mk (below_step HB.out hb); (try clear hb)))
 go_ret
 exact ⟨by rfl, by repeat (first | (with_reducible first | exact HB.out | apply below_alloc | apply pw_below_drewN | apply below_drew1 | refine below_set ?_ GE542.out) | exact HB.out)⟩

theorem rat_Whole.ev {m : Bool} {l1 l2 : List Int} {r : Rat} {K : Nat} (h : Qn.Is m l1 l2 r K) (hK1 : 1 ≤ K) (hK : K < 300000) : Ev (fun k => rat_Whole.f k m l1 l2) (decide (r.den = 1)) := by
 have M := rat_Make.ev h.num h.ws h.len hK1 (by omega)
 rw [h.val] at M
 have od := Num.ok_nd (h.sm hK1).den (by omega)
 have o1 := Num.ok_nd (n := 1) (k := 1) (by decide) (by omega)
 have C : ∀ k, nat_Compare.f k (Num.nd r.den) (Num.nd 1) = some (Num.cmp r.den 1) := fun k => by unfold nat_Compare.f; rw [if_pos od, if_pos o1, Num.nv_nd, Num.nv_nd]
 unfold rat_Whole.f
 refine Ev.bind M (Ev.bind (nat_Of.ev 1 (by omega)) (Dec.val C ?_))
 have e : (Num.cmp r.den 1 == 0) = decide (r.den = 1) := by
  by_cases hd : r.den = 1
  ·rw [decide_eq_true hd, Num.cmp_eq hd]; rfl
  ·rw [decide_eq_false hd]
   exact beq_eq_false_iff_ne.2 (fun e => hd (Num.cmp_zero.1 e))
 rw [e]
 exact Ev.now _
/-! ### rat_Text: function 38 -/
def rat_Text.f (k : Nat) (a0_0 : Bool) (l0_1 : List Int) (l0_2 : List Int) : Option (ByteArray) := (rat_Make.f k a0_0 l0_1 l0_2).bind fun bt555 => ((rat_Whole.f k bt555.1 bt555.2.1 bt555.2.2).bind fun t562 => (if t562 = true then ((whole_Text.f k bt555.1 bt555.2.1).bind fun t563 => (some t563)) else ((whole_Text.f k bt555.1 bt555.2.1).bind fun t564 => (if t564.size + 1 ≤ 9223372036854775807 then ((nat_Text.f k bt555.2.2).bind fun t565 => (if (t564 ++ (⟨#[47]⟩ : ByteArray)).size + t565.size ≤ 9223372036854775807 then (some ((t564 ++ (⟨#[47]⟩ : ByteArray)) ++ t565)) else (none))) else (none)))))
def rat_Text.T4 : Bool × List (List Nat × List Nat) := (true, [([], []), ([0], [0]), ([1], [1]), ([2], [2]), ([], []), ([4], [4]), ([5, 2], [5]), ([3, 6], [3, 6]), ([7, 6, 0, 1, 2, 3, 4, 5, 6, 7], [7])])
def rat_Text.B4 : List Nat := [0, 1, 3, 7, 0, 16, 55, 127, 255]
theorem rat_Text.tab4 : rtab .any (opsOf Try.f38 4) = rat_Text.T4 := by kernel_rfl
theorem rat_Text.bits4 : waitsOk rat_Text.T4.2 rat_Text.B4 = true := by kernel_rfl
set_option maxHeartbeats 8000000 in
set_option maxRecDepth 100000 in
theorem rat_Text.calls (k : Nat) (a0_0 : Bool) (A0_1 : Option Addr) (c0_1 : Nat) (l0_1 : List Int) (A0_2 : Option Addr) (c0_2 : Nat) (l0_2 : List Int) (r : ByteArray) (w : World) (hr0_1 : Kd.C (Kd.int .u32) w A0_1 l0_1.length l0_1) (hc0_1 : l0_1.length ≤ c0_1) (hr0_2 : Kd.C (Kd.int .u32) w A0_2 l0_2.length l0_2) (hc0_2 : l0_2.length ≤ c0_2) (h : rat_Text.f k a0_0 l0_1 l0_2 = some r) :
  Calls Try.prog 38 #[.agg #[.bool a0_0, .slice A0_1 l0_1.length c0_1, .slice A0_2 l0_2.length c0_2]] w fun e w' => e = .returned (.string r) ∧ Below w.heap.size w w' := by
 have hu27 := Try.underlying27
 have hu25 := Try.underlying25
 have HR0_1 := Aside0.mk hr0_1
 have HC0_1 := Aside0.mk hc0_1
 clear hr0_1 hc0_1
 have HR0_2 := Aside0.mk hr0_2
 have HC0_2 := Aside0.mk hc0_2
 clear hr0_2 hc0_2
 have HB := Aside0.mk (Below.refl w.heap.size w)
 have H : ((rat_Make.f k a0_0 l0_1 l0_2).bind fun bt555 => ((rat_Whole.f k bt555.1 bt555.2.1 bt555.2.2).bind fun t562 => (if t562 = true then ((whole_Text.f k bt555.1 bt555.2.1).bind fun t563 => (some t563)) else ((whole_Text.f k bt555.1 bt555.2.1).bind fun t564 => (if t564.size + 1 ≤ 9223372036854775807 then ((nat_Text.f k bt555.2.2).bind fun t565 => (if (t564 ++ (⟨#[47]⟩ : ByteArray)).size + t565.size ≤ 9223372036854775807 then (some ((t564 ++ (⟨#[47]⟩ : ByteArray)) ++ t565)) else (none))) else (none)))))) = some r := h
 clear h
 replace H := Option.bind_eq_some_iff.mp H
 obtain ⟨⟨t555, t556, t559⟩, A20, H⟩ := H
 try dsimp only at H
 have A2 := Aside0.mk A20
 clear A20
 replace H := Option.bind_eq_some_iff.mp H
 obtain ⟨t562, A30, H⟩ := H
 try dsimp only at H
 have A3 := Aside0.mk A30
 clear A30
 by_cases c4 : t562 = true
 ·subst c4
  have H1 : ((whole_Text.f k t555 t556).bind fun t563 => (some t563)) = some r := by rw [if_pos rfl] at H; exact H
  clear H
  have H := H1
  clear H1
  replace H := Option.bind_eq_some_iff.mp H
  obtain ⟨t563, A50, H⟩ := H
  replace H : (some t563) = some r := H
  have A5 := Aside0.mk A50
  clear A50
  obtain rfl := Option.some.inj H
  go_enter Try.func38, Try.ntmps38
  go_wp2_with (first | ((with_reducible refine gate_dst (N := 1) rfl ?_); refine Short.boxS_ (N := 1) (cs := #[.bool a0_0, .slice A0_1 l0_1.length c0_1, .slice A0_2 l0_2.length c0_2]) (t := 27) ?_; intro gb554 hg w6 hbox hb; have BK554 := Aside0.mk (hbox); have GW554 := Aside0.mk ((by rw [hg]; exact (below_size (by repeat (first | (with_reducible first | exact HB.out | apply below_alloc | apply pw_below_drewN | apply below_drew1) | exact HB.out))) : w.heap.size ≤ gb554)); have GE554 := Aside0.mk ((by rw [hg]; exact (below_size (by repeat (first | (with_reducible first | exact HB.out | apply below_alloc | apply pw_below_drewN | apply below_drew1) | exact HB.out))) : w.heap.size ≤ gb554)); replace HB := Aside0.mk (below_step (by repeat (first | (with_reducible first | exact HB.out | apply below_alloc | apply pw_below_drewN | apply below_drew1) | exact HB.out)) hb); clear hb hbox hg; have hcz7_0 : w6.cell? ⟨gb554, 0, none⟩ = some (.bool a0_0) := (blk_cell BK554.out 0).trans rfl; have hcz7_1 : w6.cell? ⟨gb554, 1, none⟩ = some (.slice A0_1 l0_1.length c0_1) := (blk_cell BK554.out 1).trans rfl; have hcz7_2 : w6.cell? ⟨gb554, 2, none⟩ = some (.slice A0_2 l0_2.length c0_2) := (blk_cell BK554.out 2).trans rfl; have hfz7_0 := blk_frozen BK554.out 0; have hfz7_1 := blk_frozen BK554.out 1; have hfz7_2 := blk_frozen BK554.out 2) | ((with_reducible refine gate_callee (f := 36) rfl ?_); refine Short.goesS_ (some 7) Try.func36 #[.agg #[.bool a0_0, .slice A0_1 l0_1.length c0_1], .slice A0_2 l0_2.length c0_2] ?_; (with_reducible refine (rat_Make.calls k a0_0 _ _ l0_1 _ _ l0_2 t555 t556 t559 _ ?side1 HC0_1.out ?side3 HC0_2.out A2.out).mono ?_); (case side1 => repeat (first | exact (Kd.C_below HR0_1.out HB.out) | (with_reducible refine Kd.C_alloc ?_ _) | (with_reducible refine Kd.C_drewN ?_ _) | (with_reducible refine Kd.C_drew ?_))); (case side3 => repeat (first | exact (Kd.C_below HR0_2.out HB.out) | (with_reducible refine Kd.C_alloc ?_ _) | (with_reducible refine Kd.C_drewN ?_ _) | (with_reducible refine Kd.C_drew ?_))); rintro e w8 ⟨v557, v560, rfl, ho0, ho1, hb⟩; refine ⟨_, rfl, ?_⟩; have HO558 := Aside0.mk (Kd.R_lower ho0 (Short.sizeA_ (w := w))); have HO561 := Aside0.mk (Kd.R_lower ho1 (Short.sizeA_ (w := w))); replace BK554 := Short.blkB_ (g := gb554) hb; replace HB := Short.stepB_ (w := w) hb; (try clear hb); (try clear ho0); (try clear ho1); have hcz9_0 : w8.cell? ⟨gb554, 0, none⟩ = some (.bool a0_0) := (blk_cell BK554.out 0).trans rfl; have hcz9_1 : w8.cell? ⟨gb554, 1, none⟩ = some (.slice A0_1 l0_1.length c0_1) := (blk_cell BK554.out 1).trans rfl; have hcz9_2 : w8.cell? ⟨gb554, 2, none⟩ = some (.slice A0_2 l0_2.length c0_2) := (blk_cell BK554.out 2).trans rfl; have hfz9_0 := blk_frozen BK554.out 0; have hfz9_1 := blk_frozen BK554.out 1; have hfz9_2 := blk_frozen BK554.out 2; obtain ⟨Ao10, co10, eo10⟩ := Kd.R_slice HO558.out; subst eo10; obtain ⟨Ao11, co11, eo11⟩ := Kd.R_slice HO561.out; subst eo11) | ((with_reducible refine gate_callee (f := 23) rfl ?_); refine Short.goesS_ (some 9) Try.func23 #[.agg #[.bool t555, .slice Ao10 t556.length co10, .slice Ao11 t559.length co11]] ?_; (with_reducible refine (rat_Whole.calls k t555 _ _ t556 _ _ t559 true _ ?side1 ?side2 ?side3 ?side4 A3.out).mono ?_); (case side1 => refine (Kd.R_reads' (e := 89) (base := w.heap.size) (ok := fun k_ => some k_ ≠ (.slice Ao11 t559.length co11 : Value).ownBlock) (n := t556.length) (c := co10) ?_).2.2; exact (by (with_reducible repeat (first | apply Kd.R_alloc | apply Kd.R_drewN | apply Kd.R_drew)); exact (Kd.R_mono (Kd.R_far (p := ⟨gb554, 2, none⟩) (Kd.R_far (p := ⟨gb554, 1, none⟩) (Kd.R_far (p := ⟨gb554, 0, none⟩) (Kd.R_types HO558.out BK554.out (by decide)) (fun _ hk => hk.2) (.bool t555)) (fun _ hk => hk.2) (.slice Ao10 t556.length co10)) (fun _ hk => hk.2) (.slice Ao11 t559.length co11)) (fun _ h_ => h_.1)))); (case side2 => exact (Kd.R_reads' HO558.out).2.1); (case side3 => refine (Kd.R_reads' (e := 89) (base := w.heap.size) (ok := fun k_ => some k_ ≠ (.slice Ao10 t556.length co10 : Value).ownBlock) (n := t559.length) (c := co11) ?_).2.2; exact (by (with_reducible repeat (first | apply Kd.R_alloc | apply Kd.R_drewN | apply Kd.R_drew)); exact (Kd.R_mono (Kd.R_far (p := ⟨gb554, 2, none⟩) (Kd.R_far (p := ⟨gb554, 1, none⟩) (Kd.R_far (p := ⟨gb554, 0, none⟩) (Kd.R_types HO561.out BK554.out (by decide)) (fun _ hk => hk.2) (.bool t555)) (fun _ hk => hk.2) (.slice Ao10 t556.length co10)) (fun _ hk => hk.2) (.slice Ao11 t559.length co11)) (fun _ h_ => h_.1)))); (case side4 => exact (Kd.R_reads' HO561.out).2.1); rintro e w12 ⟨rfl, hb⟩; refine ⟨_, rfl, ?_⟩; replace HO558 := Aside0.mk (Kd.R_below (by (with_reducible repeat (first | apply Kd.R_alloc | apply Kd.R_drewN | apply Kd.R_drew)); exact (Kd.R_mono (Kd.R_far (p := ⟨gb554, 2, none⟩) (Kd.R_far (p := ⟨gb554, 1, none⟩) (Kd.R_far (p := ⟨gb554, 0, none⟩) (Kd.R_types HO558.out BK554.out (by decide)) (fun _ hk => hk.2) (.bool t555)) (fun _ hk => hk.2) (.slice Ao10 t556.length co10)) (fun _ hk => hk.2) (.slice Ao11 t559.length co11)) (fun _ h_ => h_.1))) hb); replace HO561 := Aside0.mk (Kd.R_below (by (with_reducible repeat (first | apply Kd.R_alloc | apply Kd.R_drewN | apply Kd.R_drew)); exact (Kd.R_mono (Kd.R_far (p := ⟨gb554, 2, none⟩) (Kd.R_far (p := ⟨gb554, 1, none⟩) (Kd.R_far (p := ⟨gb554, 0, none⟩) (Kd.R_types HO561.out BK554.out (by decide)) (fun _ hk => hk.2) (.bool t555)) (fun _ hk => hk.2) (.slice Ao10 t556.length co10)) (fun _ hk => hk.2) (.slice Ao11 t559.length co11)) (fun _ h_ => h_.1))) hb); replace BK554 := Aside0.mk (blk_below (g := gb554) (o := .cells #[.bool t555, .slice Ao10 t556.length co10, .slice Ao11 t559.length co11] 27 (0, 0)) (by (with_reducible repeat (first | refine blk_drewN ?_ _ | refine blk_drew ?_ | refine blk_alloc ?_ _)); refine blk_put (cs := #[.bool t555, .slice Ao10 t556.length co10, .slice A0_2 l0_2.length c0_2]) ?_ 2 _ rfl; (with_reducible repeat (first | refine blk_drewN ?_ _ | refine blk_drew ?_ | refine blk_alloc ?_ _)); refine blk_put (cs := #[.bool t555, .slice A0_1 l0_1.length c0_1, .slice A0_2 l0_2.length c0_2]) ?_ 1 _ rfl; (with_reducible repeat (first | refine blk_drewN ?_ _ | refine blk_drew ?_ | refine blk_alloc ?_ _)); refine blk_put (cs := #[.bool a0_0, .slice A0_1 l0_1.length c0_1, .slice A0_2 l0_2.length c0_2]) ?_ 0 _ rfl; (with_reducible repeat (first | refine blk_drewN ?_ _ | refine blk_drew ?_ | refine blk_alloc ?_ _)); exact BK554.out) hb); replace HB := Short.stepB_ (w := w) hb; (try clear hb); have hcz13_0 : w12.cell? ⟨gb554, 0, none⟩ = some (.bool t555) := (blk_cell BK554.out 0).trans rfl; have hcz13_1 : w12.cell? ⟨gb554, 1, none⟩ = some (.slice Ao10 t556.length co10) := (blk_cell BK554.out 1).trans rfl; have hcz13_2 : w12.cell? ⟨gb554, 2, none⟩ = some (.slice Ao11 t559.length co11) := (blk_cell BK554.out 2).trans rfl; have hfz13_0 := blk_frozen BK554.out 0; have hfz13_1 := blk_frozen BK554.out 1; have hfz13_2 := blk_frozen BK554.out 2) | ((with_reducible refine gate_callee (f := 20) rfl ?_); refine Short.goesS_ (some 12) Try.func20 #[.agg #[.bool t555, .slice Ao10 t556.length co10]] ?_; (with_reducible refine (whole_Text.calls k t555 _ _ t556 t563 _ ?side1 ((Kd.R_reads' HO558.out).2.1) A5.out).mono ?_); (case side1 => repeat (first | exact (Kd.R_reads' HO558.out).2.2 | (with_reducible refine Kd.C_alloc ?_ _) | (with_reducible refine Kd.C_drewN ?_ _) | (with_reducible refine Kd.C_drew ?_))); rintro e w14 ⟨rfl, hb⟩; refine ⟨_, rfl, ?_⟩; replace HO558 := Aside0.mk (Kd.R_below (by (with_reducible repeat (first | apply Kd.R_alloc | apply Kd.R_drewN | apply Kd.R_drew)); exact HO558.out) hb); replace HO561 := Aside0.mk (Kd.R_below (by (with_reducible repeat (first | apply Kd.R_alloc | apply Kd.R_drewN | apply Kd.R_drew)); exact HO561.out) hb); replace BK554 := Short.blkB_ (g := gb554) hb; replace HB := Short.stepB_ (w := w) hb; (try clear hb)))
  go_ret
  exact ⟨by rfl, by repeat (first | (with_reducible first | exact HB.out | apply below_alloc | apply pw_below_drewN | apply below_drew1 | refine below_set ?_ GE554.out) | exact HB.out)⟩
 ·replace c4 := Bool.eq_false_iff.mpr c4
  subst c4
  have H1 : ((whole_Text.f k t555 t556).bind fun t564 => (if t564.size + 1 ≤ 9223372036854775807 then ((nat_Text.f k t559).bind fun t565 => (if (t564 ++ (⟨#[47]⟩ : ByteArray)).size + t565.size ≤ 9223372036854775807 then (some ((t564 ++ (⟨#[47]⟩ : ByteArray)) ++ t565)) else (none))) else (none))) = some r := by rw [if_neg (show ¬ (false = true) by decide)] at H; exact H
  clear H
  have H := H1
  clear H1
  replace H := Option.bind_eq_some_iff.mp H
  obtain ⟨t564, A150, H⟩ := H
  try dsimp only at H
  have A15 := Aside0.mk A150
  clear A150
  by_cases c16 : t564.size + 1 ≤ 9223372036854775807
  ·rw [if_pos c16] at H
   have c16b0 := eq_true c16
   have c16b1 : decide (t564.size + 1 ≤ 9223372036854775807) = true := decide_eq_true c16
   try have c16b2 : (9223372036854775807 < t564.size + 1) = False := eq_false (Nat.not_lt.2 c16)
   replace H := Option.bind_eq_some_iff.mp H
   obtain ⟨t565, A170, H⟩ := H
   try dsimp only at H
   have A17 := Aside0.mk A170
   clear A170
   by_cases c18 : (t564 ++ (⟨#[47]⟩ : ByteArray)).size + t565.size ≤ 9223372036854775807
   ·rw [if_pos c18] at H
    have c18b0 := eq_true c18
    have c18b1 : decide ((t564 ++ (⟨#[47]⟩ : ByteArray)).size + t565.size ≤ 9223372036854775807) = true := decide_eq_true c18
    try have c18b2 : (9223372036854775807 < (t564 ++ (⟨#[47]⟩ : ByteArray)).size + t565.size) = False := eq_false (Nat.not_lt.2 c18)
    have c18b3 : (9223372036854775807 < t564.size + 1 + t565.size) = False := eq_false (by have hcc := c18; rw [ByteArray.size_append] at hcc; exact Nat.not_lt.2 hcc)
    obtain rfl := Option.some.inj H
    go_enter Try.func38, Try.ntmps38
    try go_wp2_with (first | ((with_reducible refine gate_dst (N := 1) rfl ?_); refine Short.boxS_ (N := 1) (cs := #[.bool a0_0, .slice A0_1 l0_1.length c0_1, .slice A0_2 l0_2.length c0_2]) (t := 27) ?_; intro gb554 hg w19 hbox hb; have BK554 := Aside0.mk (hbox); have GW554 := Aside0.mk ((by rw [hg]; exact (below_size (by repeat (first | (with_reducible first | exact HB.out | apply below_alloc | apply pw_below_drewN | apply below_drew1) | exact HB.out))) : w.heap.size ≤ gb554)); have GE554 := Aside0.mk ((by rw [hg]; exact (below_size (by repeat (first | (with_reducible first | exact HB.out | apply below_alloc | apply pw_below_drewN | apply below_drew1) | exact HB.out))) : w.heap.size ≤ gb554)); replace HB := Aside0.mk (below_step (by repeat (first | (with_reducible first | exact HB.out | apply below_alloc | apply pw_below_drewN | apply below_drew1) | exact HB.out)) hb); clear hb hbox hg; have hcz20_0 : w19.cell? ⟨gb554, 0, none⟩ = some (.bool a0_0) := (blk_cell BK554.out 0).trans rfl; have hcz20_1 : w19.cell? ⟨gb554, 1, none⟩ = some (.slice A0_1 l0_1.length c0_1) := (blk_cell BK554.out 1).trans rfl; have hcz20_2 : w19.cell? ⟨gb554, 2, none⟩ = some (.slice A0_2 l0_2.length c0_2) := (blk_cell BK554.out 2).trans rfl; have hfz20_0 := blk_frozen BK554.out 0; have hfz20_1 := blk_frozen BK554.out 1; have hfz20_2 := blk_frozen BK554.out 2) | ((with_reducible refine gate_callee (f := 36) rfl ?_); refine Short.goesS_ (some 7) Try.func36 #[.agg #[.bool a0_0, .slice A0_1 l0_1.length c0_1], .slice A0_2 l0_2.length c0_2] ?_; (with_reducible refine (rat_Make.calls k a0_0 _ _ l0_1 _ _ l0_2 t555 t556 t559 _ ?side1 HC0_1.out ?side3 HC0_2.out A2.out).mono ?_); (case side1 => repeat (first | exact (Kd.C_below HR0_1.out HB.out) | (with_reducible refine Kd.C_alloc ?_ _) | (with_reducible refine Kd.C_drewN ?_ _) | (with_reducible refine Kd.C_drew ?_))); (case side3 => repeat (first | exact (Kd.C_below HR0_2.out HB.out) | (with_reducible refine Kd.C_alloc ?_ _) | (with_reducible refine Kd.C_drewN ?_ _) | (with_reducible refine Kd.C_drew ?_))); rintro e w21 ⟨v557, v560, rfl, ho0, ho1, hb⟩; refine ⟨_, rfl, ?_⟩; have HO558 := Aside0.mk (Kd.R_lower ho0 (Short.sizeA_ (w := w))); have HO561 := Aside0.mk (Kd.R_lower ho1 (Short.sizeA_ (w := w))); replace BK554 := Short.blkB_ (g := gb554) hb; replace HB := Short.stepB_ (w := w) hb; (try clear hb); (try clear ho0); (try clear ho1); have hcz22_0 : w21.cell? ⟨gb554, 0, none⟩ = some (.bool a0_0) := (blk_cell BK554.out 0).trans rfl; have hcz22_1 : w21.cell? ⟨gb554, 1, none⟩ = some (.slice A0_1 l0_1.length c0_1) := (blk_cell BK554.out 1).trans rfl; have hcz22_2 : w21.cell? ⟨gb554, 2, none⟩ = some (.slice A0_2 l0_2.length c0_2) := (blk_cell BK554.out 2).trans rfl; have hfz22_0 := blk_frozen BK554.out 0; have hfz22_1 := blk_frozen BK554.out 1; have hfz22_2 := blk_frozen BK554.out 2; obtain ⟨Ao23, co23, eo23⟩ := Kd.R_slice HO558.out; subst eo23; obtain ⟨Ao24, co24, eo24⟩ := Kd.R_slice HO561.out; subst eo24) | ((with_reducible refine gate_callee (f := 23) rfl ?_); refine Short.goesS_ (some 9) Try.func23 #[.agg #[.bool t555, .slice Ao23 t556.length co23, .slice Ao24 t559.length co24]] ?_; (with_reducible refine (rat_Whole.calls k t555 _ _ t556 _ _ t559 false _ ?side1 ?side2 ?side3 ?side4 A3.out).mono ?_); (case side1 => refine (Kd.R_reads' (e := 89) (base := w.heap.size) (ok := fun k_ => some k_ ≠ (.slice Ao24 t559.length co24 : Value).ownBlock) (n := t556.length) (c := co23) ?_).2.2; exact (by (with_reducible repeat (first | apply Kd.R_alloc | apply Kd.R_drewN | apply Kd.R_drew)); exact (Kd.R_mono (Kd.R_far (p := ⟨gb554, 2, none⟩) (Kd.R_far (p := ⟨gb554, 1, none⟩) (Kd.R_far (p := ⟨gb554, 0, none⟩) (Kd.R_types HO558.out BK554.out (by decide)) (fun _ hk => hk.2) (.bool t555)) (fun _ hk => hk.2) (.slice Ao23 t556.length co23)) (fun _ hk => hk.2) (.slice Ao24 t559.length co24)) (fun _ h_ => h_.1)))); (case side2 => exact (Kd.R_reads' HO558.out).2.1); (case side3 => refine (Kd.R_reads' (e := 89) (base := w.heap.size) (ok := fun k_ => some k_ ≠ (.slice Ao23 t556.length co23 : Value).ownBlock) (n := t559.length) (c := co24) ?_).2.2; exact (by (with_reducible repeat (first | apply Kd.R_alloc | apply Kd.R_drewN | apply Kd.R_drew)); exact (Kd.R_mono (Kd.R_far (p := ⟨gb554, 2, none⟩) (Kd.R_far (p := ⟨gb554, 1, none⟩) (Kd.R_far (p := ⟨gb554, 0, none⟩) (Kd.R_types HO561.out BK554.out (by decide)) (fun _ hk => hk.2) (.bool t555)) (fun _ hk => hk.2) (.slice Ao23 t556.length co23)) (fun _ hk => hk.2) (.slice Ao24 t559.length co24)) (fun _ h_ => h_.1)))); (case side4 => exact (Kd.R_reads' HO561.out).2.1); rintro e w25 ⟨rfl, hb⟩; refine ⟨_, rfl, ?_⟩; replace HO558 := Aside0.mk (Kd.R_below (by (with_reducible repeat (first | apply Kd.R_alloc | apply Kd.R_drewN | apply Kd.R_drew)); exact (Kd.R_mono (Kd.R_far (p := ⟨gb554, 2, none⟩) (Kd.R_far (p := ⟨gb554, 1, none⟩) (Kd.R_far (p := ⟨gb554, 0, none⟩) (Kd.R_types HO558.out BK554.out (by decide)) (fun _ hk => hk.2) (.bool t555)) (fun _ hk => hk.2) (.slice Ao23 t556.length co23)) (fun _ hk => hk.2) (.slice Ao24 t559.length co24)) (fun _ h_ => h_.1))) hb); replace HO561 := Aside0.mk (Kd.R_below (by (with_reducible repeat (first | apply Kd.R_alloc | apply Kd.R_drewN | apply Kd.R_drew)); exact (Kd.R_mono (Kd.R_far (p := ⟨gb554, 2, none⟩) (Kd.R_far (p := ⟨gb554, 1, none⟩) (Kd.R_far (p := ⟨gb554, 0, none⟩) (Kd.R_types HO561.out BK554.out (by decide)) (fun _ hk => hk.2) (.bool t555)) (fun _ hk => hk.2) (.slice Ao23 t556.length co23)) (fun _ hk => hk.2) (.slice Ao24 t559.length co24)) (fun _ h_ => h_.1))) hb); replace BK554 := Aside0.mk (blk_below (g := gb554) (o := .cells #[.bool t555, .slice Ao23 t556.length co23, .slice Ao24 t559.length co24] 27 (0, 0)) (by (with_reducible repeat (first | refine blk_drewN ?_ _ | refine blk_drew ?_ | refine blk_alloc ?_ _)); refine blk_put (cs := #[.bool t555, .slice Ao23 t556.length co23, .slice A0_2 l0_2.length c0_2]) ?_ 2 _ rfl; (with_reducible repeat (first | refine blk_drewN ?_ _ | refine blk_drew ?_ | refine blk_alloc ?_ _)); refine blk_put (cs := #[.bool t555, .slice A0_1 l0_1.length c0_1, .slice A0_2 l0_2.length c0_2]) ?_ 1 _ rfl; (with_reducible repeat (first | refine blk_drewN ?_ _ | refine blk_drew ?_ | refine blk_alloc ?_ _)); refine blk_put (cs := #[.bool a0_0, .slice A0_1 l0_1.length c0_1, .slice A0_2 l0_2.length c0_2]) ?_ 0 _ rfl; (with_reducible repeat (first | refine blk_drewN ?_ _ | refine blk_drew ?_ | refine blk_alloc ?_ _)); exact BK554.out) hb); replace HB := Short.stepB_ (w := w) hb; (try clear hb)))
    replace HO558 := Aside0.mk (Kd.R_drew HO558.out)
    replace HO561 := Aside0.mk (Kd.R_drew HO561.out)
    replace BK554 := Aside0.mk (blk_drew BK554.out)
    replace HB := Aside0.mk (below_drew1 HB.out)
    refine start_ (n := 9) (S := fun w' => w'.cell? ⟨gb554, 0, none⟩ = some (.bool t555) ∧ w'.cell? ⟨gb554, 1, none⟩ = some (.slice Ao23 t556.length co23) ∧ w'.cell? ⟨gb554, 2, none⟩ = some (.slice Ao24 t559.length co24)) (ds := []) #[false, false, false, false, false, false, false, false, false] (by kernel_rfl) rfl rfl ⟨(blk_cell BK554.out 0).trans rfl, (blk_cell BK554.out 1).trans rfl, (blk_cell BK554.out 2).trans rfl⟩ (fun hHeld => ?_); refine with_tabW rat_Text.tab4 rat_Text.bits4 (fun HT_ HW_ => ?_)
    generalize w25.drew = w26 at HO558 HO561 BK554 HB hHeld ⊢
    refine Short.pureS_ (i := 0) (N := some 13) #[true, false, false, false, false, false, false, false, false] (any_of HT_.out (by kernel_rfl)) ?_
    refine Short.pureS_ (i := 4) (N := some 17) #[true, false, false, false, true, false, false, false, false] (any_of HT_.out (by kernel_rfl)) ?_
    refine Short.takeS_ (i := 1) (N := some 14) #[true, true, false, false, true, false, false, false, false] (take_ofW HT_.out HW_.out (by kernel_rfl)) hHeld ?_
    refine Short.takeS_ (i := 5) (N := some 18) #[true, true, false, false, true, true, false, false, false] (take_ofW HT_.out HW_.out (by kernel_rfl)) hHeld ?_
    refine one_ (i := 2) (N := some 15) #[true, true, true, false, true, true, false, false, false] rfl rfl (one_of HT_.out (by kernel_rfl)) (by decide) (fun K hK => ?_)
    refine Short.goesD_ Try.func20 #[.agg #[.bool t555, .slice Ao23 t556.length co23]] ?_
    with_reducible refine (whole_Text.calls k t555 _ _ t556 t564 _ ((Kd.R_reads' HO558.out).2.2) ((Kd.R_reads' HO558.out).2.1) A15.out).mono ?_
    rintro e w27 ⟨rfl, hb⟩
    refine ⟨_, rfl, ?_⟩
    replace HO558 := Aside0.mk (Kd.R_below HO558.out hb)
    replace HO561 := Aside0.mk (Kd.R_below HO561.out hb)
    replace BK554 := Aside0.mk (blk_below BK554.out hb)
    replace HB := Aside0.mk (below_step HB.out hb)
    (try clear hb)
    refine hK.out _ _ ⟨(blk_cell BK554.out 0).trans rfl, (blk_cell BK554.out 1).trans rfl, (blk_cell BK554.out 2).trans rfl⟩ (fun hHeld => ?_)
    clear hK K
    refine Short.normS_ ?_
    refine Short.pureS_ (i := 3) (N := some 16) #[true, true, true, true, true, true, false, false, false] (any_of HT_.out (by kernel_rfl)) ?_
    refine one_ (i := 6) (N := some 19) #[true, true, true, true, true, true, true, false, false] rfl rfl (one_of HT_.out (by kernel_rfl)) (by decide) (fun K hK => ?_)
    refine Short.goesD_ Try.func59 #[.slice Ao24 t559.length co24] ?_
    with_reducible refine (nat_Text.calls k _ _ t559 t565 _ ((Kd.R_reads' HO561.out).2.2) ((Kd.R_reads' HO561.out).2.1) A17.out).mono ?_
    rintro e w28 ⟨rfl, hb⟩
    refine ⟨_, rfl, ?_⟩
    replace HO558 := Aside0.mk (Kd.R_below HO558.out hb)
    replace HO561 := Aside0.mk (Kd.R_below HO561.out hb)
    replace BK554 := Aside0.mk (blk_below BK554.out hb)
    replace HB := Aside0.mk (below_step HB.out hb)
    (try clear hb)
    refine hK.out _ _ ⟨(blk_cell BK554.out 0).trans rfl, (blk_cell BK554.out 1).trans rfl, (blk_cell BK554.out 2).trans rfl⟩ (fun hHeld => ?_)
    clear hK K
    refine Short.normS_ ?_
    refine Short.pureS_ (i := 7) (N := some 20) #[true, true, true, true, true, true, true, true, false] (any_of HT_.out (by kernel_rfl)) ?_
    refine Short.pureS_ (i := 8) (N := some 2) #[true, true, true, true, true, true, true, true, true] (any_of HT_.out (by kernel_rfl)) ?_
    refine done_ (done_of HT_.out (by kernel_rfl)) ?_
    try go_wp2
    go_ret
    exact ⟨by rfl, by repeat (first | (with_reducible first | exact HB.out | apply below_alloc | apply pw_below_drewN | apply below_drew1 | refine below_set ?_ GE554.out) | exact HB.out)⟩
   ·rw [if_neg c18] at H
    exact absurd H (by simp)
  ·rw [if_neg c16] at H
   exact absurd H (by simp)

/-- A fraction's text. -/
def rat_Text.tq (r : Rat) : ByteArray := if r.den = 1 then Zn.tz r.num else (Zn.tz r.num ++ (⟨#[47]⟩ : ByteArray)) ++ Dec.dec r.den
theorem rat_Text.ev {m : Bool} {l1 l2 : List Int} {r : Rat} {K : Nat} (h : Qn.Is m l1 l2 r K) (hK1 : 1 ≤ K) (hK : K < 300000) : Ev (fun k => rat_Text.f k m l1 l2) (rat_Text.tq r) := by
 have M := rat_Make.ev h.num h.ws h.len hK1 (by omega)
 rw [h.val] at M
 have S := h.sm hK1
 have T := whole_Text.ev (Zn.Is.zd S.num) (by omega)
 have B := nat_Text.ev (Num.Ws_nd r.den) (by have := Num.nd_length_le S.den; omega)
 rw [Num.nv_nd] at B
 have s1 := Zn.tz_size_le hK1 S.num
 have s2 := Dec.dc_len32 hK1 S.den
 unfold rat_Text.f rat_Text.tq
 refine Ev.bind M (Ev.bind (rat_Whole.ev (Qn.Is.qd S) hK1 hK) ?_)
 by_cases hd : r.den = 1
 ·rw [if_pos hd]
  exact Dec.yes (decide_eq_true hd) (Ev.bind T (Ev.now _))
 ·rw [if_neg hd]
  refine Dec.no (by rw [decide_eq_false hd]; decide) (Ev.bind T (Dec.yes (by omega) (Ev.bind B (Dec.yes ?_ (Ev.now _)))))
  rw [ByteArray.size_append, Zn.dec_size]
  have : (⟨#[47]⟩ : ByteArray).size = 1 := rfl
  omega
/-! ### nat_Right: function 78 -/
def nat_Right.f (l0 : List Int) : Option (Bool) := if (l0.length : Int) = 0 then (some true) else (if 0 ≤ (wrap64 ((l0.length : Int) - 1)) then (if (wrap64 ((l0.length : Int) - 1)) < (l0.length : Int) then (some ((rd l0 (wrap64 ((l0.length : Int) - 1))) != 0)) else (none)) else (none))
set_option maxHeartbeats 8000000 in
set_option maxRecDepth 100000 in
theorem nat_Right.calls (A0 : Option Addr) (c0 : Nat) (l0 : List Int) (r : Bool) (w : World) (hr0 : Kd.C (Kd.int .u32) w A0 l0.length l0) (hc0 : l0.length ≤ c0) (h : nat_Right.f l0 = some r) :
  Calls Try.prog 78 #[.slice A0 l0.length c0] w fun e w' => e = .returned (.bool r) ∧ Drawn0 w w' := by
 have HR0 := Aside0.mk hr0
 have HC0 := Aside0.mk hc0
 clear hr0 hc0
 have H : (if (l0.length : Int) = 0 then (some true) else (if 0 ≤ (wrap64 ((l0.length : Int) - 1)) then (if (wrap64 ((l0.length : Int) - 1)) < (l0.length : Int) then (some ((rd l0 (wrap64 ((l0.length : Int) - 1))) != 0)) else (none)) else (none))) = some r := h
 clear h
 by_cases c2 : (l0.length : Int) = 0
 ·rw [if_pos c2] at H
  have c2b0 : ((l0.length : Int) == 0) = true := beq_iff_eq.mpr c2
  have c2b1 : ((l0.length : Int) != 0) = false := bne_eq_false_iff_eq.mpr c2
  clear c2
  obtain rfl := Option.some.inj H
  go_enter Try.func78, Try.ntmps78
  go_wp2
  go_ret
  exact ⟨by first | rfl | (simp; done) | (simp [*]; done), by repeat (first | exact Drawn0.refl _ | apply Drawn0.step)⟩
 ·rw [if_neg c2] at H
  have c2b0 : ((l0.length : Int) == 0) = false := beq_eq_false_iff_ne.mpr c2
  have c2b1 : ((l0.length : Int) != 0) = true := bne_iff_ne.mpr c2
  have c2b2 : ¬ (l0 = []) := fun h_ => c2 (by rw [h_]; rfl)
  obtain ⟨ji3, hji3⟩ : ∃ j_ : Int, (wrap64 ((l0.length : Int) - 1)) = j_ := ⟨_, rfl⟩
  replace H : (if 0 ≤ (ji3) then (if (ji3) < (l0.length : Int) then (some ((rd l0 (ji3)) != 0)) else (none)) else (none)) = some r := by first | (rw [hji3] at H; exact H) | (simp only [hji3] at H ⊢; exact H)
  have hji3w : (IntKind.i64.wrap ((l0.length : Int) - 1)) = ji3 := (i64_w _).trans hji3
  by_cases c4 : 0 ≤ (ji3)
  ·rw [if_pos c4] at H
   have c4b0 : decide (0 ≤ (ji3)) = true := decide_eq_true c4
   clear c4
   by_cases c5 : (ji3) < (l0.length : Int)
   ·rw [if_pos c5] at H
    have c5b0 : decide ((ji3) < (l0.length : Int)) = true := decide_eq_true c5
    clear c5
    obtain rfl := Option.some.inj H
    have p566 : 0 ≤ ((ji3) : Int) := of_decide_eq_true (by first | (with_reducible assumption) | assumption)
    have q566 : (ji3) < (l0.length : Int) := of_decide_eq_true (by first | (with_reducible assumption) | assumption)
    obtain ⟨ad566, e566, hx566_0⟩ := Kd.at_int HR0.out (ji3) p566 q566
    cases e566
    replace p566 := eq_true p566
    replace q566 := eq_true q566
    go_enter Try.func78, Try.ntmps78
    go_wp2
    go_ret
    exact ⟨by first | rfl | (simp; done) | (simp only [← hji3] <;> (first | rfl | simp)) | (simp [*]; done), by repeat (first | exact Drawn0.refl _ | apply Drawn0.step)⟩
   ·rw [if_neg c5] at H
    exact absurd H (by simp)
  ·rw [if_neg c4] at H
   exact absurd H (by simp)

theorem nat_Right.sem {l : List Int} (h : 0 < l.length) (hl : l.length < 9223372036854775807) : nat_Right.f l = some (rd l (wrap64 ((l.length : Int) - 1)) != 0) := by
 unfold nat_Right.f
 have e := Dec.w64p l.length h (by omega)
 rw [if_neg (by omega), if_pos (by rw [e]; omega), if_pos (by rw [e]; omega)]
theorem nat_Right.nd {n : Nat} (hn : (Num.nd n).length < 9223372036854775807) : nat_Right.f (Num.nd n) = some true := by
 by_cases h : n = 0
 ·subst h
  rw [Num.nd_zero]
  rfl
 ·have h1 := Num.nd_last h
  have h2 : 0 < (Num.nd n).length := by
   rcases Nat.eq_zero_or_pos (Num.nd n).length with h0 | h0
   ·exact absurd (Num.nd_eq_nil.1 (List.eq_nil_of_length_eq_zero h0)) h
   ·exact h0
  rw [nat_Right.sem h2 hn, Dec.w64p _ h2 (by omega)]
  unfold rd
  rw [Int.toNat_natCast]
  congr 1
  simpa using h1
/-! ### whole_Right: function 77 -/
def whole_Right.f (a0_0 : Bool) (l0_1 : List Int) : Option (Bool) := (nat_Right.f l0_1).bind fun t568 => (if t568 = true then (if a0_0 = true then (some (decide ((l0_1.length : Int) > 0))) else (some true)) else (some false))
set_option maxHeartbeats 8000000 in
set_option maxRecDepth 100000 in
theorem whole_Right.calls (a0_0 : Bool) (A0_1 : Option Addr) (c0_1 : Nat) (l0_1 : List Int) (r : Bool) (w : World) (hr0_1 : Kd.C (Kd.int .u32) w A0_1 l0_1.length l0_1) (hc0_1 : l0_1.length ≤ c0_1) (h : whole_Right.f a0_0 l0_1 = some r) :
  Calls Try.prog 77 #[.agg #[.bool a0_0, .slice A0_1 l0_1.length c0_1]] w fun e w' => e = .returned (.bool r) ∧ Below w.heap.size w w' := by
 have hu25 := Try.underlying25
 have HR0_1 := Aside0.mk hr0_1
 have HC0_1 := Aside0.mk hc0_1
 clear hr0_1 hc0_1
 have HB := Aside0.mk (Below.refl w.heap.size w)
 have H : ((nat_Right.f l0_1).bind fun t568 => (if t568 = true then (if a0_0 = true then (some (decide ((l0_1.length : Int) > 0))) else (some true)) else (some false))) = some r := h
 clear h
 replace H := Option.bind_eq_some_iff.mp H
 obtain ⟨t568, A20, H⟩ := H
 try dsimp only at H
 have A2 := Aside0.mk A20
 clear A20
 by_cases c3 : t568 = true
 ·subst c3
  have H1 : (if a0_0 = true then (some (decide ((l0_1.length : Int) > 0))) else (some true)) = some r := by rw [if_pos rfl] at H; exact H
  clear H
  have H := H1
  clear H1
  by_cases c4 : a0_0 = true
  ·subst c4
   have H1 : (some (decide ((l0_1.length : Int) > 0))) = some r := by rw [if_pos rfl] at H; exact H
   clear H
   have H := H1
   clear H1
   obtain rfl := Option.some.inj H
   go_enter Try.func77, Try.ntmps77
   go_wp2_with (first | ((with_reducible refine gate_dst (N := 1) rfl ?_); (try (refine gate_guard (by rfl) ?_; dsimp only)); refine Short.boxS_ (N := 1) (cs := #[.bool true, .slice A0_1 l0_1.length c0_1]) (t := 25) ?_; intro gb567 hg w5 hbox hb; have BK567 := Aside0.mk (hbox); have GW567 := Aside0.mk ((by rw [hg]; exact (below_size (by repeat (first | (with_reducible first | exact HB.out | apply below_alloc | apply pw_below_drewN | apply below_drew1) | exact HB.out))) : w.heap.size ≤ gb567)); have GE567 := Aside0.mk ((by rw [hg]; exact (below_size (by repeat (first | (with_reducible first | exact HB.out | apply below_alloc | apply pw_below_drewN | apply below_drew1) | exact HB.out))) : w.heap.size ≤ gb567)); replace HB := Aside0.mk (below_step (by repeat (first | (with_reducible first | exact HB.out | apply below_alloc | apply pw_below_drewN | apply below_drew1) | exact HB.out)) hb); clear hb hbox hg; have hcz6_0 : w5.cell? ⟨gb567, 0, none⟩ = some (.bool true) := (blk_cell BK567.out 0).trans rfl; have hcz6_1 : w5.cell? ⟨gb567, 1, none⟩ = some (.slice A0_1 l0_1.length c0_1) := (blk_cell BK567.out 1).trans rfl; have hfz6_0 := blk_frozen BK567.out 0; have hfz6_1 := blk_frozen BK567.out 1) | ((with_reducible refine gate_callee (f := 78) rfl ?_); refine Short.goesS_ (some 5) Try.func78 #[.slice A0_1 l0_1.length c0_1] ?_; (with_reducible refine (nat_Right.calls _ _ l0_1 true _ (Kd.C_below HR0_1.out HB.out) HC0_1.out A2.out).mono ?_); rintro e w' ⟨rfl, ⟨nd, rfl⟩⟩; refine ⟨_, rfl, ?_⟩))
   go_ret
   exact ⟨by rfl, by repeat (first | (with_reducible first | exact HB.out | apply below_alloc | apply pw_below_drewN | apply below_drew1 | refine below_set ?_ GE567.out) | exact HB.out)⟩
  ·replace c4 := Bool.eq_false_iff.mpr c4
   subst c4
   have H1 : (some true) = some r := by rw [if_neg (show ¬ (false = true) by decide)] at H; exact H
   clear H
   have H := H1
   clear H1
   obtain rfl := Option.some.inj H
   go_enter Try.func77, Try.ntmps77
   go_wp2_with (first | ((with_reducible refine gate_dst (N := 1) rfl ?_); (try (refine gate_guard (by rfl) ?_; dsimp only)); refine Short.boxS_ (N := 1) (cs := #[.bool false, .slice A0_1 l0_1.length c0_1]) (t := 25) ?_; intro gb567 hg w7 hbox hb; have BK567 := Aside0.mk (hbox); have GW567 := Aside0.mk ((by rw [hg]; exact (below_size (by repeat (first | (with_reducible first | exact HB.out | apply below_alloc | apply pw_below_drewN | apply below_drew1) | exact HB.out))) : w.heap.size ≤ gb567)); have GE567 := Aside0.mk ((by rw [hg]; exact (below_size (by repeat (first | (with_reducible first | exact HB.out | apply below_alloc | apply pw_below_drewN | apply below_drew1) | exact HB.out))) : w.heap.size ≤ gb567)); replace HB := Aside0.mk (below_step (by repeat (first | (with_reducible first | exact HB.out | apply below_alloc | apply pw_below_drewN | apply below_drew1) | exact HB.out)) hb); clear hb hbox hg; have hcz8_0 : w7.cell? ⟨gb567, 0, none⟩ = some (.bool false) := (blk_cell BK567.out 0).trans rfl; have hcz8_1 : w7.cell? ⟨gb567, 1, none⟩ = some (.slice A0_1 l0_1.length c0_1) := (blk_cell BK567.out 1).trans rfl; have hfz8_0 := blk_frozen BK567.out 0; have hfz8_1 := blk_frozen BK567.out 1) | ((with_reducible refine gate_callee (f := 78) rfl ?_); refine Short.goesS_ (some 5) Try.func78 #[.slice A0_1 l0_1.length c0_1] ?_; (with_reducible refine (nat_Right.calls _ _ l0_1 true _ (Kd.C_below HR0_1.out HB.out) HC0_1.out A2.out).mono ?_); rintro e w' ⟨rfl, ⟨nd, rfl⟩⟩; refine ⟨_, rfl, ?_⟩))
   go_ret
   exact ⟨by rfl, by repeat (first | (with_reducible first | exact HB.out | apply below_alloc | apply pw_below_drewN | apply below_drew1 | refine below_set ?_ GE567.out) | exact HB.out)⟩
 ·replace c3 := Bool.eq_false_iff.mpr c3
  subst c3
  have H1 : (some false) = some r := by rw [if_neg (show ¬ (false = true) by decide)] at H; exact H
  clear H
  have H := H1
  clear H1
  obtain rfl := Option.some.inj H
  go_enter Try.func77, Try.ntmps77
  go_wp2_with (first | ((with_reducible refine gate_dst (N := 1) rfl ?_); (try (refine gate_guard (by rfl) ?_; dsimp only)); refine Short.boxS_ (N := 1) (cs := #[.bool a0_0, .slice A0_1 l0_1.length c0_1]) (t := 25) ?_; intro gb567 hg w9 hbox hb; have BK567 := Aside0.mk (hbox); have GW567 := Aside0.mk ((by rw [hg]; exact (below_size (by repeat (first | (with_reducible first | exact HB.out | apply below_alloc | apply pw_below_drewN | apply below_drew1) | exact HB.out))) : w.heap.size ≤ gb567)); have GE567 := Aside0.mk ((by rw [hg]; exact (below_size (by repeat (first | (with_reducible first | exact HB.out | apply below_alloc | apply pw_below_drewN | apply below_drew1) | exact HB.out))) : w.heap.size ≤ gb567)); replace HB := Aside0.mk (below_step (by repeat (first | (with_reducible first | exact HB.out | apply below_alloc | apply pw_below_drewN | apply below_drew1) | exact HB.out)) hb); clear hb hbox hg; have hcz10_0 : w9.cell? ⟨gb567, 0, none⟩ = some (.bool a0_0) := (blk_cell BK567.out 0).trans rfl; have hcz10_1 : w9.cell? ⟨gb567, 1, none⟩ = some (.slice A0_1 l0_1.length c0_1) := (blk_cell BK567.out 1).trans rfl; have hfz10_0 := blk_frozen BK567.out 0; have hfz10_1 := blk_frozen BK567.out 1) | ((with_reducible refine gate_callee (f := 78) rfl ?_); refine Short.goesS_ (some 5) Try.func78 #[.slice A0_1 l0_1.length c0_1] ?_; (with_reducible refine (nat_Right.calls _ _ l0_1 false _ (Kd.C_below HR0_1.out HB.out) HC0_1.out A2.out).mono ?_); rintro e w' ⟨rfl, ⟨nd, rfl⟩⟩; refine ⟨_, rfl, ?_⟩))
  go_ret
  exact ⟨by rfl, by repeat (first | (with_reducible first | exact HB.out | apply below_alloc | apply pw_below_drewN | apply below_drew1 | refine below_set ?_ GE567.out) | exact HB.out)⟩

theorem whole_Right.zd {z : Int} {K : Nat} (h : z.natAbs < 2 ^ (32 * K)) (hK : K < 1000000) : whole_Right.f (Zn.zd z).1 (Zn.zd z).2 = some true := by
 have hn : (Num.nd z.natAbs).length < 9223372036854775807 := Nat.lt_of_le_of_lt (Num.nd_length_le h) (by omega)
 unfold whole_Right.f
 show (nat_Right.f (Num.nd z.natAbs)).bind (fun t => if t = true then (if decide (z < 0) = true then some (decide (((Num.nd z.natAbs).length : Int) > 0)) else some true) else some false) = some true
 rw [nat_Right.nd hn, Option.bind_some, if_pos rfl]
 by_cases hz : z < 0
 ·have := (Zn.nd_len_pos z.natAbs).2 (by omega)
  rw [if_pos (decide_eq_true hz), decide_eq_true (by omega)]
 ·rw [if_neg (by rw [decide_eq_false hz]; decide)]
/-! ### rat_Right: function 44 -/
def rat_Right.f (k : Nat) (a0_0 : Bool) (l0_1 : List Int) (l0_2 : List Int) : Option (Bool) := (whole_Right.f a0_0 l0_1).bind fun t570 => (if t570 = true then ((nat_Right.f l0_2).bind fun t571 => (if t571 = true then (if (l0_2.length : Int) > 0 then ((nat_Gcd.f k l0_1 l0_2).bind fun t572 => ((nat_Of.f k 1).bind fun t575 => ((nat_Compare.f k t572 t575).bind fun t578 => (some (t578 == 0))))) else (some false)) else (some false))) else (some false))
set_option maxHeartbeats 8000000 in
set_option maxRecDepth 100000 in
theorem rat_Right.calls (k : Nat) (a0_0 : Bool) (A0_1 : Option Addr) (c0_1 : Nat) (l0_1 : List Int) (A0_2 : Option Addr) (c0_2 : Nat) (l0_2 : List Int) (r : Bool) (w : World) (hr0_1 : Kd.C (Kd.int .u32) w A0_1 l0_1.length l0_1) (hc0_1 : l0_1.length ≤ c0_1) (hr0_2 : Kd.C (Kd.int .u32) w A0_2 l0_2.length l0_2) (hc0_2 : l0_2.length ≤ c0_2) (h : rat_Right.f k a0_0 l0_1 l0_2 = some r) :
  Calls Try.prog 44 #[.agg #[.bool a0_0, .slice A0_1 l0_1.length c0_1, .slice A0_2 l0_2.length c0_2]] w fun e w' => e = .returned (.bool r) ∧ Below w.heap.size w w' := by
 have hu27 := Try.underlying27
 have hu25 := Try.underlying25
 have HR0_1 := Aside0.mk hr0_1
 have HC0_1 := Aside0.mk hc0_1
 clear hr0_1 hc0_1
 have HR0_2 := Aside0.mk hr0_2
 have HC0_2 := Aside0.mk hc0_2
 clear hr0_2 hc0_2
 have HB := Aside0.mk (Below.refl w.heap.size w)
 have H : ((whole_Right.f a0_0 l0_1).bind fun t570 => (if t570 = true then ((nat_Right.f l0_2).bind fun t571 => (if t571 = true then (if (l0_2.length : Int) > 0 then ((nat_Gcd.f k l0_1 l0_2).bind fun t572 => ((nat_Of.f k 1).bind fun t575 => ((nat_Compare.f k t572 t575).bind fun t578 => (some (t578 == 0))))) else (some false)) else (some false))) else (some false))) = some r := h
 clear h
 replace H := Option.bind_eq_some_iff.mp H
 obtain ⟨t570, A20, H⟩ := H
 try dsimp only at H
 have A2 := Aside0.mk A20
 clear A20
 by_cases c3 : t570 = true
 ·subst c3
  have H1 : ((nat_Right.f l0_2).bind fun t571 => (if t571 = true then (if (l0_2.length : Int) > 0 then ((nat_Gcd.f k l0_1 l0_2).bind fun t572 => ((nat_Of.f k 1).bind fun t575 => ((nat_Compare.f k t572 t575).bind fun t578 => (some (t578 == 0))))) else (some false)) else (some false))) = some r := by rw [if_pos rfl] at H; exact H
  clear H
  have H := H1
  clear H1
  replace H := Option.bind_eq_some_iff.mp H
  obtain ⟨t571, A40, H⟩ := H
  try dsimp only at H
  have A4 := Aside0.mk A40
  clear A40
  by_cases c5 : t571 = true
  ·subst c5
   have H1 : (if (l0_2.length : Int) > 0 then ((nat_Gcd.f k l0_1 l0_2).bind fun t572 => ((nat_Of.f k 1).bind fun t575 => ((nat_Compare.f k t572 t575).bind fun t578 => (some (t578 == 0))))) else (some false)) = some r := by rw [if_pos rfl] at H; exact H
   clear H
   have H := H1
   clear H1
   by_cases c6 : (l0_2.length : Int) > 0
   ·rw [if_pos c6] at H
    have c6b0 : decide (0 < (l0_2.length : Int)) = true := decide_eq_true c6
    have c6b1 : decide (0 < l0_2.length) = true := decide_eq_true (by omega)
    clear c6
    replace H := Option.bind_eq_some_iff.mp H
    obtain ⟨t572, A70, H⟩ := H
    try dsimp only at H
    have A7 := Aside0.mk A70
    clear A70
    replace H := Option.bind_eq_some_iff.mp H
    obtain ⟨t575, A80, H⟩ := H
    try dsimp only at H
    have A8 := Aside0.mk A80
    clear A80
    replace H := Option.bind_eq_some_iff.mp H
    obtain ⟨t578, A90, H⟩ := H
    replace H : (some (t578 == 0)) = some r := H
    have A9 := Aside0.mk A90
    clear A90
    obtain rfl := Option.some.inj H
    go_enter Try.func44, Try.ntmps44
    go_wp2_with (first | ((with_reducible refine gate_dst (N := 1) rfl ?_); (try (refine gate_guard (by rfl) ?_; dsimp only)); refine Short.boxS_ (N := 1) (cs := #[.bool a0_0, .slice A0_1 l0_1.length c0_1, .slice A0_2 l0_2.length c0_2]) (t := 27) ?_; intro gb569 hg w10 hbox hb; have BK569 := Aside0.mk (hbox); have GW569 := Aside0.mk ((by rw [hg]; exact (below_size (by repeat (first | (with_reducible first | exact HB.out | apply below_alloc | apply pw_below_drewN | apply below_drew1) | exact HB.out))) : w.heap.size ≤ gb569)); have GE569 := Aside0.mk ((by rw [hg]; exact (below_size (by repeat (first | (with_reducible first | exact HB.out | apply below_alloc | apply pw_below_drewN | apply below_drew1) | exact HB.out))) : w.heap.size ≤ gb569)); replace HB := Aside0.mk (below_step (by repeat (first | (with_reducible first | exact HB.out | apply below_alloc | apply pw_below_drewN | apply below_drew1) | exact HB.out)) hb); clear hb hbox hg; have hcz11_0 : w10.cell? ⟨gb569, 0, none⟩ = some (.bool a0_0) := (blk_cell BK569.out 0).trans rfl; have hcz11_1 : w10.cell? ⟨gb569, 1, none⟩ = some (.slice A0_1 l0_1.length c0_1) := (blk_cell BK569.out 1).trans rfl; have hcz11_2 : w10.cell? ⟨gb569, 2, none⟩ = some (.slice A0_2 l0_2.length c0_2) := (blk_cell BK569.out 2).trans rfl; have hfz11_0 := blk_frozen BK569.out 0; have hfz11_1 := blk_frozen BK569.out 1; have hfz11_2 := blk_frozen BK569.out 2) | ((with_reducible refine gate_callee (f := 77) rfl ?_); refine Short.goesS_ (some 5) Try.func77 #[.agg #[.bool a0_0, .slice A0_1 l0_1.length c0_1]] ?_; (with_reducible refine (whole_Right.calls a0_0 _ _ l0_1 true _ ?side1 HC0_1.out A2.out).mono ?_); (case side1 => repeat (first | exact (Kd.C_below HR0_1.out HB.out) | (with_reducible refine Kd.C_alloc ?_ _) | (with_reducible refine Kd.C_drewN ?_ _) | (with_reducible refine Kd.C_drew ?_))); rintro e w12 ⟨rfl, hb⟩; refine ⟨_, rfl, ?_⟩; replace BK569 := Short.blkB_ (g := gb569) hb; replace HB := Short.stepB_ (w := w) hb; (try clear hb); have hcz13_0 : w12.cell? ⟨gb569, 0, none⟩ = some (.bool a0_0) := (blk_cell BK569.out 0).trans rfl; have hcz13_1 : w12.cell? ⟨gb569, 1, none⟩ = some (.slice A0_1 l0_1.length c0_1) := (blk_cell BK569.out 1).trans rfl; have hcz13_2 : w12.cell? ⟨gb569, 2, none⟩ = some (.slice A0_2 l0_2.length c0_2) := (blk_cell BK569.out 2).trans rfl; have hfz13_0 := blk_frozen BK569.out 0; have hfz13_1 := blk_frozen BK569.out 1; have hfz13_2 := blk_frozen BK569.out 2) | (go_at_call 78; (with_reducible refine (nat_Right.calls _ _ l0_2 true _ ?side1 HC0_2.out A4.out).mono ?_); (case side1 => repeat (first | exact (Kd.C_below HR0_2.out HB.out) | (with_reducible refine Kd.C_alloc ?_ _) | (with_reducible refine Kd.C_drewN ?_ _) | (with_reducible refine Kd.C_drew ?_))); rintro e w' ⟨rfl, ⟨nd, rfl⟩⟩) | (go_at_call 69; (with_reducible refine (nat_Gcd.calls k _ _ l0_1 _ _ l0_2 t572 _ ?side1 HC0_1.out ?side3 HC0_2.out A7.out).mono ?_); (case side1 => repeat (first | exact (Kd.C_below HR0_1.out (by repeat (first | (with_reducible first | exact HB.out | apply below_alloc | apply pw_below_drewN | apply below_drew1 | refine below_set ?_ GE569.out) | exact HB.out))) | (with_reducible refine Kd.C_alloc ?_ _) | (with_reducible refine Kd.C_drewN ?_ _) | (with_reducible refine Kd.C_drew ?_))); (case side3 => repeat (first | exact (Kd.C_below HR0_2.out (by repeat (first | (with_reducible first | exact HB.out | apply below_alloc | apply pw_below_drewN | apply below_drew1 | refine below_set ?_ GE569.out) | exact HB.out))) | (with_reducible refine Kd.C_alloc ?_ _) | (with_reducible refine Kd.C_drewN ?_ _) | (with_reducible refine Kd.C_drew ?_))); rintro e w14 ⟨v573, rfl, ho0, hb⟩; have HO574 := Aside0.mk (Kd.V_lower (Kd.V_mono (ok' := fun k_ => k_ ≠ gb569) ho0 (fun k_ hk_ => (Kd.freshB (g := gb569) (o := .cells #[.bool a0_0, .slice A0_1 l0_1.length c0_1, .slice A0_2 l0_2.length c0_2] 27 (0, 0)) (by (with_reducible repeat (first | refine blk_drewN ?_ _ | refine blk_drew ?_ | refine blk_alloc ?_ _)); exact BK569.out) k_ hk_))) (Short.sizeA_ (w := w))); replace BK569 := Short.blkB_ (g := gb569) hb; replace HB := Short.stepB_ (w := w) hb; (try clear hb); (try clear ho0)) | (go_at_call 37; (with_reducible refine (nat_Of.calls k 1 t575 _ A8.out).mono ?_); rintro e w15 ⟨v576, rfl, ho0, hb⟩; replace HO574 := Aside0.mk (Kd.V_elder' (by (with_reducible repeat (first | apply Kd.V_alloc | apply Kd.V_drewN | apply Kd.V_drew)); exact HO574.out) (Kd.R_base ho0) hb); have HO577 := Aside0.mk (Kd.R_lower ho0 (Short.sizeA_ (w := w))); replace BK569 := Short.blkB_ (g := gb569) hb; replace HB := Short.stepB_ (w := w) hb; (try clear hb); (try clear ho0); obtain ⟨Ao16, co16, eo16⟩ := Kd.V_slice HO574.out; subst eo16; obtain ⟨Ao17, co17, eo17⟩ := Kd.R_slice HO577.out; subst eo17) | (go_at_call 62; (with_reducible refine (nat_Compare.calls k _ _ t572 _ _ t575 t578 _ ?side1 ((Kd.V_reads' HO574.out).2.1) ?side3 ((Kd.R_reads' HO577.out).2.1) A9.out).mono ?_); (case side1 => repeat (first | exact (Kd.V_reads' HO574.out).2.2 | (with_reducible refine Kd.C_alloc ?_ _) | (with_reducible refine Kd.C_drewN ?_ _) | (with_reducible refine Kd.C_drew ?_))); (case side3 => repeat (first | exact (Kd.R_reads' HO577.out).2.2 | (with_reducible refine Kd.C_alloc ?_ _) | (with_reducible refine Kd.C_drewN ?_ _) | (with_reducible refine Kd.C_drew ?_))); rintro e w18 ⟨rfl, hb⟩; replace HO574 := Aside0.mk (Kd.V_below (by (with_reducible repeat (first | apply Kd.V_alloc | apply Kd.V_drewN | apply Kd.V_drew)); exact HO574.out) hb); replace HO577 := Aside0.mk (Kd.R_below (by (with_reducible repeat (first | apply Kd.R_alloc | apply Kd.R_drewN | apply Kd.R_drew)); exact HO577.out) hb); replace BK569 := Short.blkB_ (g := gb569) hb; replace HB := Short.stepB_ (w := w) hb; (try clear hb)))
    go_ret
    exact ⟨by rfl, by repeat (first | (with_reducible first | exact HB.out | apply below_alloc | apply pw_below_drewN | apply below_drew1 | refine below_set ?_ GE569.out) | exact HB.out)⟩
   ·rw [if_neg c6] at H
    have c6b0 : decide (0 < (l0_2.length : Int)) = false := decide_eq_false c6
    have c6b1 : decide (0 < l0_2.length) = false := decide_eq_false (by omega)
    clear c6
    obtain rfl := Option.some.inj H
    go_enter Try.func44, Try.ntmps44
    go_wp2_with (first | ((with_reducible refine gate_dst (N := 1) rfl ?_); (try (refine gate_guard (by rfl) ?_; dsimp only)); refine Short.boxS_ (N := 1) (cs := #[.bool a0_0, .slice A0_1 l0_1.length c0_1, .slice A0_2 l0_2.length c0_2]) (t := 27) ?_; intro gb569 hg w19 hbox hb; have BK569 := Aside0.mk (hbox); have GW569 := Aside0.mk ((by rw [hg]; exact (below_size (by repeat (first | (with_reducible first | exact HB.out | apply below_alloc | apply pw_below_drewN | apply below_drew1) | exact HB.out))) : w.heap.size ≤ gb569)); have GE569 := Aside0.mk ((by rw [hg]; exact (below_size (by repeat (first | (with_reducible first | exact HB.out | apply below_alloc | apply pw_below_drewN | apply below_drew1) | exact HB.out))) : w.heap.size ≤ gb569)); replace HB := Aside0.mk (below_step (by repeat (first | (with_reducible first | exact HB.out | apply below_alloc | apply pw_below_drewN | apply below_drew1) | exact HB.out)) hb); clear hb hbox hg; have hcz20_0 : w19.cell? ⟨gb569, 0, none⟩ = some (.bool a0_0) := (blk_cell BK569.out 0).trans rfl; have hcz20_1 : w19.cell? ⟨gb569, 1, none⟩ = some (.slice A0_1 l0_1.length c0_1) := (blk_cell BK569.out 1).trans rfl; have hcz20_2 : w19.cell? ⟨gb569, 2, none⟩ = some (.slice A0_2 l0_2.length c0_2) := (blk_cell BK569.out 2).trans rfl; have hfz20_0 := blk_frozen BK569.out 0; have hfz20_1 := blk_frozen BK569.out 1; have hfz20_2 := blk_frozen BK569.out 2) | ((with_reducible refine gate_callee (f := 77) rfl ?_); refine Short.goesS_ (some 5) Try.func77 #[.agg #[.bool a0_0, .slice A0_1 l0_1.length c0_1]] ?_; (with_reducible refine (whole_Right.calls a0_0 _ _ l0_1 true _ ?side1 HC0_1.out A2.out).mono ?_); (case side1 => repeat (first | exact (Kd.C_below HR0_1.out HB.out) | (with_reducible refine Kd.C_alloc ?_ _) | (with_reducible refine Kd.C_drewN ?_ _) | (with_reducible refine Kd.C_drew ?_))); rintro e w21 ⟨rfl, hb⟩; refine ⟨_, rfl, ?_⟩; replace BK569 := Short.blkB_ (g := gb569) hb; replace HB := Short.stepB_ (w := w) hb; (try clear hb); have hcz22_0 : w21.cell? ⟨gb569, 0, none⟩ = some (.bool a0_0) := (blk_cell BK569.out 0).trans rfl; have hcz22_1 : w21.cell? ⟨gb569, 1, none⟩ = some (.slice A0_1 l0_1.length c0_1) := (blk_cell BK569.out 1).trans rfl; have hcz22_2 : w21.cell? ⟨gb569, 2, none⟩ = some (.slice A0_2 l0_2.length c0_2) := (blk_cell BK569.out 2).trans rfl; have hfz22_0 := blk_frozen BK569.out 0; have hfz22_1 := blk_frozen BK569.out 1; have hfz22_2 := blk_frozen BK569.out 2) | (go_at_call 78; (with_reducible refine (nat_Right.calls _ _ l0_2 true _ ?side1 HC0_2.out A4.out).mono ?_); (case side1 => repeat (first | exact (Kd.C_below HR0_2.out HB.out) | (with_reducible refine Kd.C_alloc ?_ _) | (with_reducible refine Kd.C_drewN ?_ _) | (with_reducible refine Kd.C_drew ?_))); rintro e w' ⟨rfl, ⟨nd, rfl⟩⟩))
    go_ret
    exact ⟨by rfl, by repeat (first | (with_reducible first | exact HB.out | apply below_alloc | apply pw_below_drewN | apply below_drew1 | refine below_set ?_ GE569.out) | exact HB.out)⟩
  ·replace c5 := Bool.eq_false_iff.mpr c5
   subst c5
   have H1 : (some false) = some r := by rw [if_neg (show ¬ (false = true) by decide)] at H; exact H
   clear H
   have H := H1
   clear H1
   obtain rfl := Option.some.inj H
   go_enter Try.func44, Try.ntmps44
   go_wp2_with (first | ((with_reducible refine gate_dst (N := 1) rfl ?_); (try (refine gate_guard (by rfl) ?_; dsimp only)); refine Short.boxS_ (N := 1) (cs := #[.bool a0_0, .slice A0_1 l0_1.length c0_1, .slice A0_2 l0_2.length c0_2]) (t := 27) ?_; intro gb569 hg w23 hbox hb; have BK569 := Aside0.mk (hbox); have GW569 := Aside0.mk ((by rw [hg]; exact (below_size (by repeat (first | (with_reducible first | exact HB.out | apply below_alloc | apply pw_below_drewN | apply below_drew1) | exact HB.out))) : w.heap.size ≤ gb569)); have GE569 := Aside0.mk ((by rw [hg]; exact (below_size (by repeat (first | (with_reducible first | exact HB.out | apply below_alloc | apply pw_below_drewN | apply below_drew1) | exact HB.out))) : w.heap.size ≤ gb569)); replace HB := Aside0.mk (below_step (by repeat (first | (with_reducible first | exact HB.out | apply below_alloc | apply pw_below_drewN | apply below_drew1) | exact HB.out)) hb); clear hb hbox hg; have hcz24_0 : w23.cell? ⟨gb569, 0, none⟩ = some (.bool a0_0) := (blk_cell BK569.out 0).trans rfl; have hcz24_1 : w23.cell? ⟨gb569, 1, none⟩ = some (.slice A0_1 l0_1.length c0_1) := (blk_cell BK569.out 1).trans rfl; have hcz24_2 : w23.cell? ⟨gb569, 2, none⟩ = some (.slice A0_2 l0_2.length c0_2) := (blk_cell BK569.out 2).trans rfl; have hfz24_0 := blk_frozen BK569.out 0; have hfz24_1 := blk_frozen BK569.out 1; have hfz24_2 := blk_frozen BK569.out 2) | ((with_reducible refine gate_callee (f := 77) rfl ?_); refine Short.goesS_ (some 5) Try.func77 #[.agg #[.bool a0_0, .slice A0_1 l0_1.length c0_1]] ?_; (with_reducible refine (whole_Right.calls a0_0 _ _ l0_1 true _ ?side1 HC0_1.out A2.out).mono ?_); (case side1 => repeat (first | exact (Kd.C_below HR0_1.out HB.out) | (with_reducible refine Kd.C_alloc ?_ _) | (with_reducible refine Kd.C_drewN ?_ _) | (with_reducible refine Kd.C_drew ?_))); rintro e w25 ⟨rfl, hb⟩; refine ⟨_, rfl, ?_⟩; replace BK569 := Short.blkB_ (g := gb569) hb; replace HB := Short.stepB_ (w := w) hb; (try clear hb); have hcz26_0 : w25.cell? ⟨gb569, 0, none⟩ = some (.bool a0_0) := (blk_cell BK569.out 0).trans rfl; have hcz26_1 : w25.cell? ⟨gb569, 1, none⟩ = some (.slice A0_1 l0_1.length c0_1) := (blk_cell BK569.out 1).trans rfl; have hcz26_2 : w25.cell? ⟨gb569, 2, none⟩ = some (.slice A0_2 l0_2.length c0_2) := (blk_cell BK569.out 2).trans rfl; have hfz26_0 := blk_frozen BK569.out 0; have hfz26_1 := blk_frozen BK569.out 1; have hfz26_2 := blk_frozen BK569.out 2) | (go_at_call 78; (with_reducible refine (nat_Right.calls _ _ l0_2 false _ ?side1 HC0_2.out A4.out).mono ?_); (case side1 => repeat (first | exact (Kd.C_below HR0_2.out HB.out) | (with_reducible refine Kd.C_alloc ?_ _) | (with_reducible refine Kd.C_drewN ?_ _) | (with_reducible refine Kd.C_drew ?_))); rintro e w' ⟨rfl, ⟨nd, rfl⟩⟩))
   go_ret
   exact ⟨by rfl, by repeat (first | (with_reducible first | exact HB.out | apply below_alloc | apply pw_below_drewN | apply below_drew1 | refine below_set ?_ GE569.out) | exact HB.out)⟩
 ·replace c3 := Bool.eq_false_iff.mpr c3
  subst c3
  have H1 : (some false) = some r := by rw [if_neg (show ¬ (false = true) by decide)] at H; exact H
  clear H
  have H := H1
  clear H1
  obtain rfl := Option.some.inj H
  go_enter Try.func44, Try.ntmps44
  go_wp2_with (first | ((with_reducible refine gate_dst (N := 1) rfl ?_); (try (refine gate_guard (by rfl) ?_; dsimp only)); refine Short.boxS_ (N := 1) (cs := #[.bool a0_0, .slice A0_1 l0_1.length c0_1, .slice A0_2 l0_2.length c0_2]) (t := 27) ?_; intro gb569 hg w27 hbox hb; have BK569 := Aside0.mk (hbox); have GW569 := Aside0.mk ((by rw [hg]; exact (below_size (by repeat (first | (with_reducible first | exact HB.out | apply below_alloc | apply pw_below_drewN | apply below_drew1) | exact HB.out))) : w.heap.size ≤ gb569)); have GE569 := Aside0.mk ((by rw [hg]; exact (below_size (by repeat (first | (with_reducible first | exact HB.out | apply below_alloc | apply pw_below_drewN | apply below_drew1) | exact HB.out))) : w.heap.size ≤ gb569)); replace HB := Aside0.mk (below_step (by repeat (first | (with_reducible first | exact HB.out | apply below_alloc | apply pw_below_drewN | apply below_drew1) | exact HB.out)) hb); clear hb hbox hg; have hcz28_0 : w27.cell? ⟨gb569, 0, none⟩ = some (.bool a0_0) := (blk_cell BK569.out 0).trans rfl; have hcz28_1 : w27.cell? ⟨gb569, 1, none⟩ = some (.slice A0_1 l0_1.length c0_1) := (blk_cell BK569.out 1).trans rfl; have hcz28_2 : w27.cell? ⟨gb569, 2, none⟩ = some (.slice A0_2 l0_2.length c0_2) := (blk_cell BK569.out 2).trans rfl; have hfz28_0 := blk_frozen BK569.out 0; have hfz28_1 := blk_frozen BK569.out 1; have hfz28_2 := blk_frozen BK569.out 2) | ((with_reducible refine gate_callee (f := 77) rfl ?_); refine Short.goesS_ (some 5) Try.func77 #[.agg #[.bool a0_0, .slice A0_1 l0_1.length c0_1]] ?_; (with_reducible refine (whole_Right.calls a0_0 _ _ l0_1 false _ ?side1 HC0_1.out A2.out).mono ?_); (case side1 => repeat (first | exact (Kd.C_below HR0_1.out HB.out) | (with_reducible refine Kd.C_alloc ?_ _) | (with_reducible refine Kd.C_drewN ?_ _) | (with_reducible refine Kd.C_drew ?_))); rintro e w29 ⟨rfl, hb⟩; refine ⟨_, rfl, ?_⟩; replace BK569 := Short.blkB_ (g := gb569) hb; replace HB := Short.stepB_ (w := w) hb; (try clear hb)))
  go_ret
  exact ⟨by rfl, by repeat (first | (with_reducible first | exact HB.out | apply below_alloc | apply pw_below_drewN | apply below_drew1 | refine below_set ?_ GE569.out) | exact HB.out)⟩

theorem rat_Right.qd {r : Rat} {K : Nat} (h : Qn.Sm r K) (hK : K < 300000) : Ev (fun k => rat_Right.f k (Qn.qd r).1 (Qn.qd r).2.1 (Qn.qd r).2.2) true := by
 have hn : (Num.nd r.den).length < 9223372036854775807 := Nat.lt_of_le_of_lt (Num.nd_length_le h.den) (by omega)
 have G := nat_Gcd.ev (K := K) (by omega) (Num.Ws_nd r.num.natAbs) (Num.Ws_nd r.den) (Num.nd_length_le h.num) (Num.nd_length_le h.den)
 rw [Num.nv_nd, Num.nv_nd, r.reduced] at G
 have o1 := Num.ok_nd (n := 1) (k := 1) (by decide) (by omega)
 have C : ∀ k, nat_Compare.f k (Num.nd 1) (Num.nd 1) = some 0 := fun k => by unfold nat_Compare.f; rw [if_pos o1, if_pos o1, Num.cmp_eq rfl]
 have hp := (Zn.nd_len_pos r.den).2 r.den_nz
 have W := whole_Right.zd h.num (by omega)
 unfold rat_Right.f
 exact Dec.val (fun _ => W) (Dec.yes rfl (Dec.val (fun _ => nat_Right.nd hn) (Dec.yes rfl (Dec.yes (show ((Num.nd r.den).length : Int) > 0 by omega) (Ev.bind G (Ev.bind (nat_Of.ev 1 (by omega)) (Dec.val C (Ev.now _))))))))
/-! ### offcutlaw03_awake: function 11 -/
def offcutlaw03_awake.f (k : Nat)  : Option (Bool) := (rat_Of.f k 6 (-4)).bind fun bt579 => ((rat_Text.f k bt579.1 bt579.2.1 bt579.2.2.1).bind fun t588 => (if t588.toList = ([45, 51, 47, 50] : List UInt8) then (if bt579.2.2.2 = 0 then ((rat_Floor.f k bt579.1 bt579.2.1 bt579.2.2.1).bind fun bt589 => ((whole_Text.f k bt589.1 bt589.2).bind fun t593 => (if t593.toList = ([45, 50] : List UInt8) then ((rat_Ceil.f k bt579.1 bt579.2.1 bt579.2.2.1).bind fun bt594 => ((whole_Text.f k bt594.1 bt594.2).bind fun t598 => (if t598.toList = ([45, 49] : List UInt8) then ((rat_Right.f k bt579.1 bt579.2.1 bt579.2.2.1).bind fun t599 => (some t599)) else (some false)))) else (some false)))) else (some false)) else (some false)))
set_option maxHeartbeats 8000000 in
set_option maxRecDepth 100000 in
theorem offcutlaw03_awake.calls (k : Nat)  (r : Bool) (w : World) (hrt : r = true) (h : offcutlaw03_awake.f k  = some r) :
  Calls Try.prog 11 #[] w fun e w' => e = .returned (.bool r) ∧ Below w.heap.size w w' := by
 have hu27 := Try.underlying27
 have HRT := Aside0.mk hrt
 clear hrt
 have HB := Aside0.mk (Below.refl w.heap.size w)
 have H : ((rat_Of.f k 6 (-4)).bind fun bt579 => ((rat_Text.f k bt579.1 bt579.2.1 bt579.2.2.1).bind fun t588 => (if t588.toList = ([45, 51, 47, 50] : List UInt8) then (if bt579.2.2.2 = 0 then ((rat_Floor.f k bt579.1 bt579.2.1 bt579.2.2.1).bind fun bt589 => ((whole_Text.f k bt589.1 bt589.2).bind fun t593 => (if t593.toList = ([45, 50] : List UInt8) then ((rat_Ceil.f k bt579.1 bt579.2.1 bt579.2.2.1).bind fun bt594 => ((whole_Text.f k bt594.1 bt594.2).bind fun t598 => (if t598.toList = ([45, 49] : List UInt8) then ((rat_Right.f k bt579.1 bt579.2.1 bt579.2.2.1).bind fun t599 => (some t599)) else (some false)))) else (some false)))) else (some false)) else (some false)))) = some r := h
 clear h
 replace H := Option.bind_eq_some_iff.mp H
 obtain ⟨⟨t579, t580, t583, t586⟩, A10, H⟩ := H
 try dsimp only at H
 have A1 := Aside0.mk A10
 clear A10
 replace H := Option.bind_eq_some_iff.mp H
 obtain ⟨t588, A20, H⟩ := H
 try dsimp only at H
 have A2 := Aside0.mk A20
 clear A20
 by_cases c3 : t588.toList = ([45, 51, 47, 50] : List UInt8)
 ·rw [if_pos c3] at H
  have c3b0 : (t588.toList == ([45, 51, 47, 50] : List UInt8)) = true := beq_iff_eq.mpr c3
  have c3b1 : (t588.toList != ([45, 51, 47, 50] : List UInt8)) = false := bne_eq_false_iff_eq.mpr c3
  clear c3
  by_cases c4 : t586 = 0
  ·rw [if_pos c4] at H
   have c4b0 : (t586 == 0) = true := beq_iff_eq.mpr c4
   have c4b1 : (t586 != 0) = false := bne_eq_false_iff_eq.mpr c4
   clear c4
   replace H := Option.bind_eq_some_iff.mp H
   obtain ⟨⟨t589, t590⟩, A50, H⟩ := H
   try dsimp only at H
   have A5 := Aside0.mk A50
   clear A50
   replace H := Option.bind_eq_some_iff.mp H
   obtain ⟨t593, A60, H⟩ := H
   try dsimp only at H
   have A6 := Aside0.mk A60
   clear A60
   by_cases c7 : t593.toList = ([45, 50] : List UInt8)
   ·rw [if_pos c7] at H
    have c7b0 : (t593.toList == ([45, 50] : List UInt8)) = true := beq_iff_eq.mpr c7
    have c7b1 : (t593.toList != ([45, 50] : List UInt8)) = false := bne_eq_false_iff_eq.mpr c7
    clear c7
    replace H := Option.bind_eq_some_iff.mp H
    obtain ⟨⟨t594, t595⟩, A80, H⟩ := H
    try dsimp only at H
    have A8 := Aside0.mk A80
    clear A80
    replace H := Option.bind_eq_some_iff.mp H
    obtain ⟨t598, A90, H⟩ := H
    try dsimp only at H
    have A9 := Aside0.mk A90
    clear A90
    by_cases c10 : t598.toList = ([45, 49] : List UInt8)
    ·rw [if_pos c10] at H
     have c10b0 : (t598.toList == ([45, 49] : List UInt8)) = true := beq_iff_eq.mpr c10
     have c10b1 : (t598.toList != ([45, 49] : List UInt8)) = false := bne_eq_false_iff_eq.mpr c10
     clear c10
     replace H := Option.bind_eq_some_iff.mp H
     obtain ⟨t599, A110, H⟩ := H
     replace H : (some t599) = some r := H
     have A11 := Aside0.mk A110
     clear A110
     obtain rfl := Option.some.inj H
     go_enter Try.func11, Try.ntmps11
     go_wp2_with (first | ((with_reducible refine gate_callee (f := 24) rfl ?_); refine Short.goesS_ (some 4) Try.func24 #[.int .i64 6, .int .i64 (-4)] ?_; (with_reducible refine (rat_Of.calls k 6 (-4) t579 t580 t583 t586 _ A1.out).mono ?_); rintro e w12 ⟨v581, v584, rfl, ho0, ho1, hb⟩; refine ⟨_, rfl, ?_⟩; have HO582 := Aside0.mk (Kd.R_lower ho0 (below_size (by repeat (first | (with_reducible first | exact HB.out | apply below_alloc | apply pw_below_drewN | apply below_drew1) | exact HB.out)))); have HO585 := Aside0.mk (Kd.R_lower ho1 (below_size (by repeat (first | (with_reducible first | exact HB.out | apply below_alloc | apply pw_below_drewN | apply below_drew1) | exact HB.out)))); replace HB := Aside0.mk (below_step (by repeat (first | (with_reducible first | exact HB.out | apply below_alloc | apply pw_below_drewN | apply below_drew1) | exact HB.out)) hb); (try clear hb); (try clear ho0); (try clear ho1)) | ((with_reducible refine gate_dst (N := 1) rfl ?_); refine Short.boxS_ (N := 1) (cs := #[.bool false, .slice none 0 0, .slice none 0 0]) (t := 27) ?_; intro gb587 hg w13 hbox hb; replace HO582 := Aside0.mk (Kd.R_below (by (with_reducible repeat (first | apply Kd.R_alloc | apply Kd.R_drewN | apply Kd.R_drew)); exact HO582.out) hb); replace HO585 := Aside0.mk (Kd.R_below (by (with_reducible repeat (first | apply Kd.R_alloc | apply Kd.R_drewN | apply Kd.R_drew)); exact HO585.out) hb); have BK587 := Aside0.mk (hbox); have GW587 := Aside0.mk ((by rw [hg]; exact (below_size (by repeat (first | (with_reducible first | exact HB.out | apply below_alloc | apply pw_below_drewN | apply below_drew1) | exact HB.out))) : w.heap.size ≤ gb587)); have GE587 := Aside0.mk ((by rw [hg]; exact (below_size (by repeat (first | (with_reducible first | exact HB.out | apply below_alloc | apply pw_below_drewN | apply below_drew1) | exact HB.out))) : w.heap.size ≤ gb587)); replace HB := Aside0.mk (below_step (by repeat (first | (with_reducible first | exact HB.out | apply below_alloc | apply pw_below_drewN | apply below_drew1) | exact HB.out)) hb); clear hb hbox hg; have hcz14_0 : w13.cell? ⟨gb587, 0, none⟩ = some (.bool false) := (blk_cell BK587.out 0).trans rfl; have hcz14_1 : w13.cell? ⟨gb587, 1, none⟩ = some (.slice none 0 0) := (blk_cell BK587.out 1).trans rfl; have hcz14_2 : w13.cell? ⟨gb587, 2, none⟩ = some (.slice none 0 0) := (blk_cell BK587.out 2).trans rfl; have hfz14_0 := blk_frozen BK587.out 0; have hfz14_1 := blk_frozen BK587.out 1; have hfz14_2 := blk_frozen BK587.out 2; obtain ⟨Ao15, co15, eo15⟩ := Kd.R_slice HO582.out; subst eo15; obtain ⟨Ao16, co16, eo16⟩ := Kd.R_slice HO585.out; subst eo16) | ((with_reducible refine gate_callee (f := 38) rfl ?_); refine Short.goesS_ (some 8) Try.func38 #[.agg #[.bool t579, .slice Ao15 t580.length co15, .slice Ao16 t583.length co16]] ?_; (with_reducible refine (rat_Text.calls k t579 _ _ t580 _ _ t583 t588 _ ?side1 ?side2 ?side3 ?side4 A2.out).mono ?_); (case side1 => refine (Kd.R_reads' (e := 89) (base := w.heap.size) (ok := fun k_ => some k_ ≠ (.slice Ao16 t583.length co16 : Value).ownBlock) (n := t580.length) (c := co15) ?_).2.2; exact (by (with_reducible repeat (first | apply Kd.R_alloc | apply Kd.R_drewN | apply Kd.R_drew)); exact (Kd.R_mono (Kd.R_far (p := ⟨gb587, 2, none⟩) (Kd.R_far (p := ⟨gb587, 1, none⟩) (Kd.R_far (p := ⟨gb587, 0, none⟩) (Kd.R_types HO582.out BK587.out (by decide)) (fun _ hk => hk.2) (.bool t579)) (fun _ hk => hk.2) (.slice Ao15 t580.length co15)) (fun _ hk => hk.2) (.slice Ao16 t583.length co16)) (fun _ h_ => h_.1)))); (case side2 => exact (Kd.R_reads' HO582.out).2.1); (case side3 => refine (Kd.R_reads' (e := 89) (base := w.heap.size) (ok := fun k_ => some k_ ≠ (.slice Ao15 t580.length co15 : Value).ownBlock) (n := t583.length) (c := co16) ?_).2.2; exact (by (with_reducible repeat (first | apply Kd.R_alloc | apply Kd.R_drewN | apply Kd.R_drew)); exact (Kd.R_mono (Kd.R_far (p := ⟨gb587, 2, none⟩) (Kd.R_far (p := ⟨gb587, 1, none⟩) (Kd.R_far (p := ⟨gb587, 0, none⟩) (Kd.R_types HO585.out BK587.out (by decide)) (fun _ hk => hk.2) (.bool t579)) (fun _ hk => hk.2) (.slice Ao15 t580.length co15)) (fun _ hk => hk.2) (.slice Ao16 t583.length co16)) (fun _ h_ => h_.1)))); (case side4 => exact (Kd.R_reads' HO585.out).2.1); rintro e w17 ⟨rfl, hb⟩; refine ⟨_, rfl, ?_⟩; replace HO582 := Aside0.mk (Kd.R_below (by (with_reducible repeat (first | apply Kd.R_alloc | apply Kd.R_drewN | apply Kd.R_drew)); exact (Kd.R_mono (Kd.R_far (p := ⟨gb587, 2, none⟩) (Kd.R_far (p := ⟨gb587, 1, none⟩) (Kd.R_far (p := ⟨gb587, 0, none⟩) (Kd.R_types HO582.out BK587.out (by decide)) (fun _ hk => hk.2) (.bool t579)) (fun _ hk => hk.2) (.slice Ao15 t580.length co15)) (fun _ hk => hk.2) (.slice Ao16 t583.length co16)) (fun _ h_ => h_.1))) hb); replace HO585 := Aside0.mk (Kd.R_below (by (with_reducible repeat (first | apply Kd.R_alloc | apply Kd.R_drewN | apply Kd.R_drew)); exact (Kd.R_mono (Kd.R_far (p := ⟨gb587, 2, none⟩) (Kd.R_far (p := ⟨gb587, 1, none⟩) (Kd.R_far (p := ⟨gb587, 0, none⟩) (Kd.R_types HO585.out BK587.out (by decide)) (fun _ hk => hk.2) (.bool t579)) (fun _ hk => hk.2) (.slice Ao15 t580.length co15)) (fun _ hk => hk.2) (.slice Ao16 t583.length co16)) (fun _ h_ => h_.1))) hb); replace BK587 := Aside0.mk (blk_below (g := gb587) (o := .cells #[.bool t579, .slice Ao15 t580.length co15, .slice Ao16 t583.length co16] 27 (0, 0)) (by (with_reducible repeat (first | refine blk_drewN ?_ _ | refine blk_drew ?_ | refine blk_alloc ?_ _)); refine blk_put (cs := #[.bool t579, .slice Ao15 t580.length co15, .slice none 0 0]) ?_ 2 _ rfl; (with_reducible repeat (first | refine blk_drewN ?_ _ | refine blk_drew ?_ | refine blk_alloc ?_ _)); refine blk_put (cs := #[.bool t579, .slice none 0 0, .slice none 0 0]) ?_ 1 _ rfl; (with_reducible repeat (first | refine blk_drewN ?_ _ | refine blk_drew ?_ | refine blk_alloc ?_ _)); refine blk_put (cs := #[.bool false, .slice none 0 0, .slice none 0 0]) ?_ 0 _ rfl; (with_reducible repeat (first | refine blk_drewN ?_ _ | refine blk_drew ?_ | refine blk_alloc ?_ _)); exact BK587.out) hb); replace HB := Short.stepB_ (w := w) hb; (try clear hb); have hcz18_0 : w17.cell? ⟨gb587, 0, none⟩ = some (.bool t579) := (blk_cell BK587.out 0).trans rfl; have hcz18_1 : w17.cell? ⟨gb587, 1, none⟩ = some (.slice Ao15 t580.length co15) := (blk_cell BK587.out 1).trans rfl; have hcz18_2 : w17.cell? ⟨gb587, 2, none⟩ = some (.slice Ao16 t583.length co16) := (blk_cell BK587.out 2).trans rfl; have hfz18_0 := blk_frozen BK587.out 0; have hfz18_1 := blk_frozen BK587.out 1; have hfz18_2 := blk_frozen BK587.out 2) | (go_at_call 21; (with_reducible refine (rat_Floor.calls k t579 _ _ t580 _ _ t583 t589 t590 _ ?side1 ((Kd.R_reads' HO582.out).2.1) ?side3 ((Kd.R_reads' HO585.out).2.1) A5.out).mono ?_); (case side1 => repeat (first | exact (Kd.R_reads' HO582.out).2.2 | (with_reducible refine Kd.C_alloc ?_ _) | (with_reducible refine Kd.C_drewN ?_ _) | (with_reducible refine Kd.C_drew ?_))); (case side3 => repeat (first | exact (Kd.R_reads' HO585.out).2.2 | (with_reducible refine Kd.C_alloc ?_ _) | (with_reducible refine Kd.C_drewN ?_ _) | (with_reducible refine Kd.C_drew ?_))); rintro e w19 ⟨v591, rfl, ho0, hb⟩; have HO592 := Aside0.mk (Kd.R_lower (Kd.R_new' (Kd.R_new' ho0 (Kd.R_lt (by (with_reducible repeat (first | apply Kd.R_alloc | apply Kd.R_drewN | apply Kd.R_drew)); exact HO582.out))) (Kd.R_lt (by (with_reducible repeat (first | apply Kd.R_alloc | apply Kd.R_drewN | apply Kd.R_drew)); exact HO585.out))) (Short.sizeA_ (w := w))); replace HO582 := Aside0.mk (Kd.R_elder' (by (with_reducible repeat (first | apply Kd.R_alloc | apply Kd.R_drewN | apply Kd.R_drew)); exact HO582.out) (Kd.R_base ho0) hb); replace HO585 := Aside0.mk (Kd.R_elder' (by (with_reducible repeat (first | apply Kd.R_alloc | apply Kd.R_drewN | apply Kd.R_drew)); exact HO585.out) (Kd.R_base ho0) hb); replace BK587 := Short.blkB_ (g := gb587) hb; replace HB := Short.stepB_ (w := w) hb; (try clear hb); (try clear ho0); obtain ⟨Ao20, co20, eo20⟩ := Kd.R_slice HO592.out; subst eo20) | (go_at_call 20; (with_reducible refine (whole_Text.calls k t589 _ _ t590 t593 _ ?side1 ((Kd.R_reads' HO592.out).2.1) A6.out).mono ?_); (case side1 => repeat (first | exact (Kd.R_reads' HO592.out).2.2 | (with_reducible refine Kd.C_alloc ?_ _) | (with_reducible refine Kd.C_drewN ?_ _) | (with_reducible refine Kd.C_drew ?_))); rintro e w21 ⟨rfl, hb⟩; replace HO582 := Aside0.mk (Kd.R_below (by (with_reducible repeat (first | apply Kd.R_alloc | apply Kd.R_drewN | apply Kd.R_drew)); exact HO582.out) hb); replace HO585 := Aside0.mk (Kd.R_below (by (with_reducible repeat (first | apply Kd.R_alloc | apply Kd.R_drewN | apply Kd.R_drew)); exact HO585.out) hb); replace HO592 := Aside0.mk (Kd.R_below (by (with_reducible repeat (first | apply Kd.R_alloc | apply Kd.R_drewN | apply Kd.R_drew)); exact HO592.out) hb); replace BK587 := Short.blkB_ (g := gb587) hb; replace HB := Short.stepB_ (w := w) hb; (try clear hb); have hcz22_0 : w21.cell? ⟨gb587, 0, none⟩ = some (.bool t579) := (blk_cell BK587.out 0).trans rfl; have hcz22_1 : w21.cell? ⟨gb587, 1, none⟩ = some (.slice Ao15 t580.length co15) := (blk_cell BK587.out 1).trans rfl; have hcz22_2 : w21.cell? ⟨gb587, 2, none⟩ = some (.slice Ao16 t583.length co16) := (blk_cell BK587.out 2).trans rfl; have hfz22_0 := blk_frozen BK587.out 0; have hfz22_1 := blk_frozen BK587.out 1; have hfz22_2 := blk_frozen BK587.out 2) | (go_at_call 22; (with_reducible refine (rat_Ceil.calls k t579 _ _ t580 _ _ t583 t594 t595 _ ?side1 ((Kd.R_reads' HO582.out).2.1) ?side3 ((Kd.R_reads' HO585.out).2.1) A8.out).mono ?_); (case side1 => repeat (first | exact (Kd.R_reads' HO582.out).2.2 | (with_reducible refine Kd.C_alloc ?_ _) | (with_reducible refine Kd.C_drewN ?_ _) | (with_reducible refine Kd.C_drew ?_))); (case side3 => repeat (first | exact (Kd.R_reads' HO585.out).2.2 | (with_reducible refine Kd.C_alloc ?_ _) | (with_reducible refine Kd.C_drewN ?_ _) | (with_reducible refine Kd.C_drew ?_))); rintro e w23 ⟨v596, rfl, ho0, hb⟩; have HO597 := Aside0.mk (Kd.R_lower (Kd.R_new' (Kd.R_new' (Kd.R_new' ho0 (Kd.R_lt (by (with_reducible repeat (first | apply Kd.R_alloc | apply Kd.R_drewN | apply Kd.R_drew)); exact HO582.out))) (Kd.R_lt (by (with_reducible repeat (first | apply Kd.R_alloc | apply Kd.R_drewN | apply Kd.R_drew)); exact HO585.out))) (Kd.R_lt (by (with_reducible repeat (first | apply Kd.R_alloc | apply Kd.R_drewN | apply Kd.R_drew)); exact HO592.out))) (Short.sizeA_ (w := w))); replace HO582 := Aside0.mk (Kd.R_elder' (by (with_reducible repeat (first | apply Kd.R_alloc | apply Kd.R_drewN | apply Kd.R_drew)); exact HO582.out) (Kd.R_base ho0) hb); replace HO585 := Aside0.mk (Kd.R_elder' (by (with_reducible repeat (first | apply Kd.R_alloc | apply Kd.R_drewN | apply Kd.R_drew)); exact HO585.out) (Kd.R_base ho0) hb); replace HO592 := Aside0.mk (Kd.R_elder' (by (with_reducible repeat (first | apply Kd.R_alloc | apply Kd.R_drewN | apply Kd.R_drew)); exact HO592.out) (Kd.R_base ho0) hb); replace BK587 := Short.blkB_ (g := gb587) hb; replace HB := Short.stepB_ (w := w) hb; (try clear hb); (try clear ho0); obtain ⟨Ao24, co24, eo24⟩ := Kd.R_slice HO597.out; subst eo24) | (go_at_call 20; (with_reducible refine (whole_Text.calls k t594 _ _ t595 t598 _ ?side1 ((Kd.R_reads' HO597.out).2.1) A9.out).mono ?_); (case side1 => repeat (first | exact (Kd.R_reads' HO597.out).2.2 | (with_reducible refine Kd.C_alloc ?_ _) | (with_reducible refine Kd.C_drewN ?_ _) | (with_reducible refine Kd.C_drew ?_))); rintro e w25 ⟨rfl, hb⟩; replace HO582 := Aside0.mk (Kd.R_below (by (with_reducible repeat (first | apply Kd.R_alloc | apply Kd.R_drewN | apply Kd.R_drew)); exact HO582.out) hb); replace HO585 := Aside0.mk (Kd.R_below (by (with_reducible repeat (first | apply Kd.R_alloc | apply Kd.R_drewN | apply Kd.R_drew)); exact HO585.out) hb); replace HO592 := Aside0.mk (Kd.R_below (by (with_reducible repeat (first | apply Kd.R_alloc | apply Kd.R_drewN | apply Kd.R_drew)); exact HO592.out) hb); replace HO597 := Aside0.mk (Kd.R_below (by (with_reducible repeat (first | apply Kd.R_alloc | apply Kd.R_drewN | apply Kd.R_drew)); exact HO597.out) hb); replace BK587 := Short.blkB_ (g := gb587) hb; replace HB := Short.stepB_ (w := w) hb; (try clear hb); have hcz26_0 : w25.cell? ⟨gb587, 0, none⟩ = some (.bool t579) := (blk_cell BK587.out 0).trans rfl; have hcz26_1 : w25.cell? ⟨gb587, 1, none⟩ = some (.slice Ao15 t580.length co15) := (blk_cell BK587.out 1).trans rfl; have hcz26_2 : w25.cell? ⟨gb587, 2, none⟩ = some (.slice Ao16 t583.length co16) := (blk_cell BK587.out 2).trans rfl; have hfz26_0 := blk_frozen BK587.out 0; have hfz26_1 := blk_frozen BK587.out 1; have hfz26_2 := blk_frozen BK587.out 2) | (go_at_call 44; (with_reducible refine (rat_Right.calls k t579 _ _ t580 _ _ t583 t599 _ ?side1 ((Kd.R_reads' HO582.out).2.1) ?side3 ((Kd.R_reads' HO585.out).2.1) A11.out).mono ?_); (case side1 => repeat (first | exact (Kd.R_reads' HO582.out).2.2 | (with_reducible refine Kd.C_alloc ?_ _) | (with_reducible refine Kd.C_drewN ?_ _) | (with_reducible refine Kd.C_drew ?_))); (case side3 => repeat (first | exact (Kd.R_reads' HO585.out).2.2 | (with_reducible refine Kd.C_alloc ?_ _) | (with_reducible refine Kd.C_drewN ?_ _) | (with_reducible refine Kd.C_drew ?_))); rintro e w27 ⟨rfl, hb⟩; replace HO582 := Aside0.mk (Kd.R_below (by (with_reducible repeat (first | apply Kd.R_alloc | apply Kd.R_drewN | apply Kd.R_drew)); exact HO582.out) hb); replace HO585 := Aside0.mk (Kd.R_below (by (with_reducible repeat (first | apply Kd.R_alloc | apply Kd.R_drewN | apply Kd.R_drew)); exact HO585.out) hb); replace HO592 := Aside0.mk (Kd.R_below (by (with_reducible repeat (first | apply Kd.R_alloc | apply Kd.R_drewN | apply Kd.R_drew)); exact HO592.out) hb); replace HO597 := Aside0.mk (Kd.R_below (by (with_reducible repeat (first | apply Kd.R_alloc | apply Kd.R_drewN | apply Kd.R_drew)); exact HO597.out) hb); replace BK587 := Short.blkB_ (g := gb587) hb; replace HB := Short.stepB_ (w := w) hb; (try clear hb)))
     go_ret
     exact ⟨by rfl, by repeat (first | (with_reducible first | exact HB.out | apply below_alloc | apply pw_below_drewN | apply below_drew1 | refine below_set ?_ GE587.out) | exact HB.out)⟩
    ·rw [if_neg c10] at H
     have c10b0 : (t598.toList == ([45, 49] : List UInt8)) = false := beq_eq_false_iff_ne.mpr c10
     have c10b1 : (t598.toList != ([45, 49] : List UInt8)) = true := bne_iff_ne.mpr c10
     obtain rfl := Option.some.inj H
     exact absurd HRT.out (by decide)
   ·rw [if_neg c7] at H
    have c7b0 : (t593.toList == ([45, 50] : List UInt8)) = false := beq_eq_false_iff_ne.mpr c7
    have c7b1 : (t593.toList != ([45, 50] : List UInt8)) = true := bne_iff_ne.mpr c7
    obtain rfl := Option.some.inj H
    exact absurd HRT.out (by decide)
  ·rw [if_neg c4] at H
   have c4b0 : (t586 == 0) = false := beq_eq_false_iff_ne.mpr c4
   have c4b1 : (t586 != 0) = true := bne_iff_ne.mpr c4
   obtain rfl := Option.some.inj H
   exact absurd HRT.out (by decide)
 ·rw [if_neg c3] at H
  have c3b0 : (t588.toList == ([45, 51, 47, 50] : List UInt8)) = false := beq_eq_false_iff_ne.mpr c3
  have c3b1 : (t588.toList != ([45, 51, 47, 50] : List UInt8)) = true := bne_iff_ne.mpr c3
  obtain rfl := Option.some.inj H
  exact absurd HRT.out (by decide)

theorem offcutlaw03_awake.ev : Ev (fun k => offcutlaw03_awake.f k) true := by
 have O := rat_Of.ev (n := 6) (d := -4) (by omega) (by omega) (by omega) (by omega) (by omega)
 obtain ⟨r, hr⟩ : ∃ r : Rat, r = ((6 : Int) : Rat) / ((-4 : Int) : Rat) := ⟨_, rfl⟩
 rw [← hr] at O
 have er : r = mkRat (-3) 2 := by
  rw [hr, ← Rat.divInt_eq_div, show (-4 : Int) = -(((4 : Nat) : Int)) from rfl, Rat.divInt_neg', Rat.divInt_ofNat]
  exact (Rat.mkRat_eq_iff (by decide) (by decide)).2 (by decide)
 have en : r.num = -3 := by rw [er]; rfl
 have ed : r.den = 2 := by rw [er]; rfl
 have S : Qn.Sm r 1 := ⟨by rw [en]; decide, by rw [ed]; decide⟩
 have I := Qn.Is.qd S
 have T := rat_Text.ev I (by omega) (by omega)
 have F := rat_Floor.ev I (by omega) (by omega)
 have C := rat_Ceil.ev I (by omega) (by omega)
 have R := rat_Right.qd S (by omega)
 have fl : r.floor = -2 := by rw [er]; rfl
 have ce : r.ceil = -1 := by rw [er]; rfl
 rw [fl] at F
 rw [ce] at C
 have b2 : (-2 : Int).natAbs < 2 ^ (32 * 1) := by decide
 have b1 : (-1 : Int).natAbs < 2 ^ (32 * 1) := by decide
 have T2 := whole_Text.ev (Zn.Is.zd b2) (by omega)
 have T1 := whole_Text.ev (Zn.Is.zd b1) (by omega)
 have dig : ∀ d : Nat, d ≠ 0 → d < 10 → Dec.dec d = Dec.tx [d] := by
  intro d h0 h
  have e1 := Dec.dc_snoc Dec.Ds.nil h h0
  have e : Dec.dv ([] ++ [d]) = d := by simp [Dec.dv]
  rw [e] at e1
  unfold Dec.dec
  rw [e1]
  rfl
 have bts : ∀ t : ByteArray, t.toList = t.data.toList := fun t => by
  have := ByteArray.toList_mk t.data.toList
  rwa [Array.toArray_toList] at this
 have t2 : (Zn.tz (-2)).toList = ([45, 50] : List UInt8) := by
  rw [Zn.tz_neg (by omega), Zn.minus_toList, show (-2 : Int).natAbs = 2 from rfl, dig 2 (by omega) (by omega)]
  exact congrArg (List.cons 45) (ByteArray.toList_mk [50])
 have t1 : (Zn.tz (-1)).toList = ([45, 49] : List UInt8) := by
  rw [Zn.tz_neg (by omega), Zn.minus_toList, show (-1 : Int).natAbs = 1 from rfl, dig 1 (by omega) (by omega)]
  exact congrArg (List.cons 45) (ByteArray.toList_mk [49])
 have tt : (rat_Text.tq r).toList = ([45, 51, 47, 50] : List UInt8) := by
  unfold rat_Text.tq
  rw [if_neg (by omega), en, ed, Zn.tz_neg (by omega), show (-3 : Int).natAbs = 3 from rfl, dig 3 (by omega) (by omega), dig 2 (by omega) (by omega)]
  rw [bts, ByteArray.data_append, ByteArray.data_append, ByteArray.data_append, Array.toList_append, Array.toList_append, Array.toList_append]
  rfl
 unfold offcutlaw03_awake.f
 exact Ev.bind O (Ev.bind T (Dec.yes tt (Dec.yes rfl (Ev.bind F (Ev.bind T2 (Dec.yes t2 (Ev.bind C (Ev.bind T1 (Dec.yes t1 (Ev.bind R (Ev.now _)))))))))))
end Go.Proofs.Ytcdkopidgibijaa.PR
