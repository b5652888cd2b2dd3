/- Several functions' printed texts in one file. -/
import Derived.Test.YtcdkopidgibijaaShort
import Derived.Test.YtcdkopidgibijaaPRg0
import Derived.Test.YtcdkopidgibijaaPRg47
import Derived.Test.YtcdkopidgibijaaPRx62
import Derived.Test.YtcdkopidgibijaaRat
namespace Go.Proofs.Ytcdkopidgibijaa.PR
open Go.RowKit Go.Proofs.YtcdkopidgibijaaW.PrintWords Go.Proofs.YtcdkopidgibijaaW.PrintLast Go.Proofs.YtcdkopidgibijaaW.PrintMore
attribute [local go_sem] max2_int min2_int max_two min_two max_three min_three max_four min_four   -- for this text's walks alone
set_option linter.unusedVariables false
set_option linter.unusedSimpArgs false
/-! ### offcutref02_Mul: function 50 -/
def offcutref02_Mul.f (k : Nat) (a0 : ByteArray) (a1 : ByteArray) : Option (ByteArray) := (offcutref02_Below.f a0).bind fun t656 => ((offcutref02_Below.f a1).bind fun t657 => ((offcutref02_size.f a0).bind fun t658 => ((offcutref02_size.f a1).bind fun t659 => ((offcutref01_Mul.f k t658 t659).bind fun t660 => ((offcutref02_Made.f (t656 != t657) t660).bind fun t661 => (some t661))))))
set_option maxHeartbeats 8000000 in
set_option maxRecDepth 100000 in
theorem offcutref02_Mul.calls (k : Nat) (a0 : ByteArray) (a1 : ByteArray) (r : ByteArray) (w : World) (h : offcutref02_Mul.f k a0 a1 = some r) :
  Calls Try.prog 50 #[.string a0, .string a1] w fun e w' => e = .returned (.string r) ∧ Below w.heap.size w w' := by
 have HB := Aside0.mk (Below.refl w.heap.size w)
 have H : ((offcutref02_Below.f a0).bind fun t656 => ((offcutref02_Below.f a1).bind fun t657 => ((offcutref02_size.f a0).bind fun t658 => ((offcutref02_size.f a1).bind fun t659 => ((offcutref01_Mul.f k t658 t659).bind fun t660 => ((offcutref02_Made.f (t656 != t657) t660).bind fun t661 => (some t661))))))) = some r := h
 clear h
 replace H := Option.bind_eq_some_iff.mp H
 obtain ⟨t656, A30, H⟩ := H
 try dsimp only at H
 have A3 := Aside0.mk A30
 clear A30
 replace H := Option.bind_eq_some_iff.mp H
 obtain ⟨t657, A40, H⟩ := H
 try dsimp only at H
 have A4 := Aside0.mk A40
 clear A40
 replace H := Option.bind_eq_some_iff.mp H
 obtain ⟨t658, A50, H⟩ := H
 try dsimp only at H
 have A5 := Aside0.mk A50
 clear A50
 replace H := Option.bind_eq_some_iff.mp H
 obtain ⟨t659, A60, H⟩ := H
 try dsimp only at H
 have A6 := Aside0.mk A60
 clear A60
 replace H := Option.bind_eq_some_iff.mp H
 obtain ⟨t660, A70, H⟩ := H
 try dsimp only at H
 have A7 := Aside0.mk A70
 clear A70
 replace H := Option.bind_eq_some_iff.mp H
 obtain ⟨t661, A80, H⟩ := H
 replace H : (some t661) = some r := H
 have A8 := Aside0.mk A80
 clear A80
 obtain rfl := Option.some.inj H
 go_enter Try.func50, Try.ntmps50
 go_wp2_with (first | ((with_reducible refine gate_callee (f := 52) rfl ?_); refine Short.goesS_ (some 6) Try.func52 #[.string a0] ?_; (with_reducible refine (offcutref02_Below.calls a0 t656 _ A3.out).mono ?_); rintro e w' ⟨rfl, ⟨nd, rfl⟩⟩; refine ⟨_, rfl, ?_⟩) | ((with_reducible refine gate_callee (f := 52) rfl ?_); refine Short.goesS_ (some 8) Try.func52 #[.string a1] ?_; (with_reducible refine (offcutref02_Below.calls a1 t657 _ A4.out).mono ?_); rintro e w' ⟨rfl, ⟨nd, rfl⟩⟩; refine ⟨_, rfl, ?_⟩) | ((with_reducible refine gate_callee (f := 54) rfl ?_); refine Short.goesS_ (some 11) Try.func54 #[.string a0] ?_; (with_reducible refine (offcutref02_size.calls a0 t658 _ A5.out).mono ?_); rintro e w' ⟨rfl, ⟨nd, rfl⟩⟩; refine ⟨_, rfl, ?_⟩) | ((with_reducible refine gate_callee (f := 54) rfl ?_); refine Short.goesS_ (some 13) Try.func54 #[.string a1] ?_; (with_reducible refine (offcutref02_size.calls a1 t659 _ A6.out).mono ?_); rintro e w' ⟨rfl, ⟨nd, rfl⟩⟩; refine ⟨_, rfl, ?_⟩) | ((with_reducible refine gate_callee (f := 51) rfl ?_); refine Short.goesS_ (some 14) Try.func51 #[.string t658, .string t659] ?_; (with_reducible refine (offcutref01_Mul.calls k t658 t659 t660 _ A7.out).mono ?_); rintro e w9 ⟨rfl, hb⟩; refine ⟨_, rfl, ?_⟩; replace HB := Aside0.mk (below_step (by repeat (first | (with_reducible first | exact HB.out | apply below_alloc | apply pw_below_drewN | apply below_drew1) | exact HB.out)) hb); (try clear hb)) | ((with_reducible refine gate_callee (f := 48) rfl ?_); refine Short.goesS_ (some 15) Try.func48 #[.bool (t656 != t657), .string t660] ?_; (with_reducible refine (offcutref02_Made.calls (t656 != t657) t660 t661 _ A8.out).mono ?_); rintro e w' ⟨rfl, ⟨nd, rfl⟩⟩; refine ⟨_, rfl, ?_⟩))
 go_ret
 exact ⟨by rfl, by repeat (first | (with_reducible first | exact HB.out | apply below_alloc | apply pw_below_drewN | apply below_drew1) | exact HB.out)⟩

theorem offcutref02_Mul.ev {a b : Int} {K J : Nat} (ha : a.natAbs < 2 ^ (32 * K)) (hb : b.natAbs < 2 ^ (32 * J)) (hK : K + J < 1000000) : Ev (fun k => offcutref02_Mul.f k (Zn.tz a) (Zn.tz b)) (Zn.tz (a * b)) := by
 have la := Dec.dc_len32 (n := a.natAbs) (k := K + 1) (by omega) (Num.le_pow ha (by omega))
 have lb := Dec.dc_len32 (n := b.natAbs) (k := J + 1) (by omega) (Num.le_pow hb (by omega))
 have ls := Dec.dc_len32 (n := a.natAbs * b.natAbs) (k := K + J + 1) (by omega) (Num.le_pow (Num.mul_lt ha hb) (by omega))
 have M := offcutref01_Mul.ev (Dec.Ds_dc a.natAbs) (Dec.Ds_dc b.natAbs) (by omega) (by omega)
 rw [Dec.dv_dc, Dec.dv_dc] at M
 have d : Zn.zv (decide (a < 0) != decide (b < 0)) (a.natAbs * b.natAbs) = a * b := by
  by_cases h0 : a.natAbs * b.natAbs = 0
  ·rw [h0, Zn.zv_zero]
   rw [← Int.natAbs_mul] at h0
   omega
  ·have a0 : a.natAbs ≠ 0 := fun e => h0 (by rw [e, Nat.zero_mul])
   have b0 : b.natAbs ≠ 0 := fun e => h0 (by rw [e, Nat.mul_zero])
   have e : (decide (a < 0) != decide (b < 0)) = decide (a * b < 0) := by
    by_cases ha0 : a < 0
    ·by_cases hb0 : b < 0
     ·have := Int.mul_pos_of_neg_of_neg ha0 hb0
      rw [decide_eq_true ha0, decide_eq_true hb0, decide_eq_false (by omega)]
      rfl
     ·have := Int.mul_neg_of_neg_of_pos ha0 (show 0 < b by omega)
      rw [decide_eq_true ha0, decide_eq_false hb0, decide_eq_true this]
      rfl
    ·by_cases hb0 : b < 0
     ·have := Int.mul_neg_of_pos_of_neg (show 0 < a by omega) hb0
      rw [decide_eq_false ha0, decide_eq_true hb0, decide_eq_true this]
      rfl
     ·have := Int.mul_pos (show 0 < a by omega) (show 0 < b by omega)
      rw [decide_eq_false ha0, decide_eq_false hb0, decide_eq_false (by omega)]
      rfl
   rw [e, Zn.mul_sign]
 have R := offcutref02_Made.sem (decide (a < 0) != decide (b < 0)) (a.natAbs * b.natAbs) (by omega)
 rw [d] at R
 unfold offcutref02_Mul.f
 exact Dec.val (fun _ => offcutref02_Below.sem a) (Dec.val (fun _ => offcutref02_Below.sem b) (Dec.val (fun _ => offcutref02_size.sem a) (Dec.val (fun _ => offcutref02_size.sem b) (Ev.bind M (Dec.val (fun _ => R) (Ev.now _))))))
/-! ### offcutref03_Mul: function 16 -/
def offcutref03_Mul.f (k : Nat) (a0_0 : ByteArray) (a0_1 : ByteArray) (a1_0 : ByteArray) (a1_1 : ByteArray) : Option (ByteArray × ByteArray) := (offcutref02_Mul.f k a0_0 a1_0).bind fun t665 => ((offcutref01_Mul.f k a0_1 a1_1).bind fun t666 => ((offcutref03_Low.f k t665 t666).bind fun bt667 => (some (bt667.1, bt667.2))))
def offcutref03_Mul.T1 : Bool × List (List Nat × List Nat) := (true, [([], []), ([0], [0]), ([], []), ([2], [2]), ([1, 3], [1, 3]), ([], []), ([5], [5]), ([], []), ([7], [7]), ([6, 8, 4], [6, 8]), ([4, 9, 9], [4, 9]), ([10, 10, 0, 1, 2, 3, 4, 5, 6, 7, 8, 9, 10], [10])])
def offcutref03_Mul.B1 : List Nat := [0, 1, 0, 4, 15, 0, 32, 0, 128, 511, 1023, 2047]
theorem offcutref03_Mul.tab1 : rtab .any (opsOf Try.f16 1) = offcutref03_Mul.T1 := by kernel_rfl
theorem offcutref03_Mul.bits1 : waitsOk offcutref03_Mul.T1.2 offcutref03_Mul.B1 = true := by kernel_rfl
set_option maxHeartbeats 8000000 in
set_option maxRecDepth 100000 in
theorem offcutref03_Mul.calls (k : Nat) (a0_0 : ByteArray) (a0_1 : ByteArray) (a1_0 : ByteArray) (a1_1 : ByteArray) (r1 : ByteArray) (r2 : ByteArray) (w : World) (h : offcutref03_Mul.f k a0_0 a0_1 a1_0 a1_1 = some (r1, r2)) :
  Calls Try.prog 16 #[.agg #[.string a0_0, .string a0_1], .agg #[.string a1_0, .string a1_1]] w fun e w' => e = .returned (.agg #[.string r1, .string r2]) ∧ Below w.heap.size w w' := by
 have hu34 := Try.underlying34
 have HB := Aside0.mk (Below.refl w.heap.size w)
 have H : ((offcutref02_Mul.f k a0_0 a1_0).bind fun t665 => ((offcutref01_Mul.f k a0_1 a1_1).bind fun t666 => ((offcutref03_Low.f k t665 t666).bind fun bt667 => (some (bt667.1, bt667.2))))) = some (r1, r2) := h
 clear h
 replace H := Option.bind_eq_some_iff.mp H
 obtain ⟨t665, A30, H⟩ := H
 try dsimp only at H
 have A3 := Aside0.mk A30
 clear A30
 replace H := Option.bind_eq_some_iff.mp H
 obtain ⟨t666, A40, H⟩ := H
 try dsimp only at H
 have A4 := Aside0.mk A40
 clear A40
 replace H := Option.bind_eq_some_iff.mp H
 obtain ⟨⟨t667, t668⟩, A50, H⟩ := H
 replace H : (some (t667, t668)) = some (r1, r2) := H
 have A5 := Aside0.mk A50
 clear A50
 simp only [Option.some.injEq, Prod.mk.injEq] at H
 obtain ⟨rfl, rfl⟩ := H
 go_enter Try.func16, Try.ntmps16
 try go_wp2_with (first | ((with_reducible refine gate_dst (N := 2) rfl ?_); refine Short.boxS_ (N := 2) (cs := #[.string a0_0, .string a0_1]) (t := 34) ?_; intro gb662 hg w6 hbox hb; have BK662 := Aside0.mk (hbox); have GW662 := Aside0.mk ((by rw [hg]; exact (below_size (by repeat (first | (with_reducible first | exact HB.out | apply below_alloc | apply pw_below_drewN | apply below_drew1) | exact HB.out))) : w.heap.size ≤ gb662)); have GE662 := Aside0.mk ((by rw [hg]; exact (below_size (by repeat (first | (with_reducible first | exact HB.out | apply below_alloc | apply pw_below_drewN | apply below_drew1) | exact HB.out))) : w.heap.size ≤ gb662)); replace HB := Aside0.mk (below_step (by repeat (first | (with_reducible first | exact HB.out | apply below_alloc | apply pw_below_drewN | apply below_drew1) | exact HB.out)) hb); clear hb hbox hg) | ((with_reducible refine gate_dst (N := 3) rfl ?_); refine Short.boxS_ (N := 3) (cs := #[.string a1_0, .string a1_1]) (t := 34) ?_; intro gb663 hg w7 hbox hb; have BK663 := Aside0.mk (hbox); have GW663 := Aside0.mk ((by rw [hg]; exact (below_size HB.out) : w.heap.size ≤ gb663)); have GE663 := Aside0.mk ((by rw [hg]; exact (below_size HB.out) : w.heap.size ≤ gb663)); replace HB := Aside0.mk (below_step HB.out hb); have NB662_663 := Short.ltA_ hg BK662; have NB663_662 := Short.gtA_ hg BK662; replace BK662 := Aside0.mk (blk_below BK662.out hb); clear hb hbox hg) | ((with_reducible refine gate_dst (N := 4) rfl ?_); refine Short.boxS_ (N := 4) (cs := #[.string (⟨#[]⟩ : ByteArray), .string (⟨#[]⟩ : ByteArray)]) (t := 34) ?_; intro gb664 hg w8 hbox hb; have BK664 := Aside0.mk (hbox); have GW664 := Aside0.mk ((by rw [hg]; exact (below_size HB.out) : w.heap.size ≤ gb664)); have GE664 := Aside0.mk ((by rw [hg]; exact (below_size HB.out) : w.heap.size ≤ gb664)); replace HB := Aside0.mk (below_step HB.out hb); have NB662_664 := Short.ltA_ hg BK662; have NB664_662 := Short.gtA_ hg BK662; replace BK662 := Aside0.mk (blk_below BK662.out hb); have NB663_664 := Short.ltA_ hg BK663; have NB664_663 := Short.gtA_ hg BK663; replace BK663 := Aside0.mk (blk_below BK663.out hb); clear hb hbox hg))
 replace BK662 := Aside0.mk (blk_drew BK662.out)
 replace BK663 := Aside0.mk (blk_drew BK663.out)
 replace BK664 := Aside0.mk (blk_drew BK664.out)
 replace HB := Aside0.mk (below_drew1 HB.out)
 refine start_ (n := 12) (S := fun w' => w'.cell? ⟨gb662, 0, none⟩ = some (.string a0_0) ∧ w'.cell? ⟨gb662, 1, none⟩ = some (.string a0_1) ∧ w'.cell? ⟨gb663, 0, none⟩ = some (.string a1_0) ∧ w'.cell? ⟨gb663, 1, none⟩ = some (.string a1_1)) (ds := []) #[false, false, false, false, false, false, false, false, false, false, false, false] (by kernel_rfl) rfl rfl ⟨(blk_cell BK662.out 0).trans rfl, (blk_cell BK662.out 1).trans rfl, (blk_cell BK663.out 0).trans rfl, (blk_cell BK663.out 1).trans rfl⟩ (fun hHeld => ?_); refine with_tabW offcutref03_Mul.tab1 offcutref03_Mul.bits1 (fun HT_ HW_ => ?_)
 generalize w8.drew = w9 at BK662 BK663 BK664 HB hHeld ⊢
 refine Short.pureS_ (i := 0) (N := some 5) #[true, false, false, false, false, false, false, false, false, false, false, false] (any_of HT_.out (by kernel_rfl)) ?_
 refine Short.pureS_ (i := 2) (N := some 7) #[true, false, true, false, false, false, false, false, false, false, false, false] (any_of HT_.out (by kernel_rfl)) ?_
 refine Short.pureS_ (i := 5) (N := some 10) #[true, false, true, false, false, true, false, false, false, false, false, false] (any_of HT_.out (by kernel_rfl)) ?_
 refine Short.pureS_ (i := 7) (N := some 12) #[true, false, true, false, false, true, false, true, false, false, false, false] (any_of HT_.out (by kernel_rfl)) ?_
 refine Short.takeS_ (i := 1) (N := some 6) #[true, true, true, false, false, true, false, true, false, false, false, false] (take_ofW HT_.out HW_.out (by kernel_rfl)) hHeld ?_
 refine Short.takeS_ (i := 3) (N := some 8) #[true, true, true, true, false, true, false, true, false, false, false, false] (take_ofW HT_.out HW_.out (by kernel_rfl)) hHeld ?_
 refine Short.takeS_ (i := 6) (N := some 11) #[true, true, true, true, false, true, true, true, false, false, false, false] (take_ofW HT_.out HW_.out (by kernel_rfl)) hHeld ?_
 refine Short.takeS_ (i := 8) (N := some 13) #[true, true, true, true, false, true, true, true, true, false, false, false] (take_ofW HT_.out HW_.out (by kernel_rfl)) hHeld ?_
 refine one_ (i := 4) (N := some 9) #[true, true, true, true, true, true, true, true, true, false, false, false] rfl rfl (one_of HT_.out (by kernel_rfl)) (by decide) (fun K hK => ?_)
 refine Short.goesD_ Try.func50 #[.string a0_0, .string a1_0] ?_
 with_reducible refine (offcutref02_Mul.calls k a0_0 a1_0 t665 _ A3.out).mono ?_
 rintro e w10 ⟨rfl, hb⟩
 refine ⟨_, rfl, ?_⟩
 replace BK662 := Aside0.mk (blk_below BK662.out hb)
 replace BK663 := Aside0.mk (blk_below BK663.out hb)
 replace BK664 := Aside0.mk (blk_below BK664.out hb)
 replace HB := Aside0.mk (below_step HB.out hb)
 (try clear hb)
 refine hK.out _ _ ⟨(blk_cell BK662.out 0).trans rfl, (blk_cell BK662.out 1).trans rfl, (blk_cell BK663.out 0).trans rfl, (blk_cell BK663.out 1).trans rfl⟩ (fun hHeld => ?_)
 clear hK K
 refine Short.normS_ ?_
 refine one_ (i := 9) (N := some 14) #[true, true, true, true, true, true, true, true, true, true, false, false] rfl rfl (one_of HT_.out (by kernel_rfl)) (by decide) (fun K hK => ?_)
 refine Short.goesD_ Try.func51 #[.string a0_1, .string a1_1] ?_
 with_reducible refine (offcutref01_Mul.calls k a0_1 a1_1 t666 _ A4.out).mono ?_
 rintro e w11 ⟨rfl, hb⟩
 refine ⟨_, rfl, ?_⟩
 replace BK662 := Aside0.mk (blk_below BK662.out hb)
 replace BK663 := Aside0.mk (blk_below BK663.out hb)
 replace BK664 := Aside0.mk (blk_below BK664.out hb)
 replace HB := Aside0.mk (below_step HB.out hb)
 (try clear hb)
 refine hK.out _ _ ⟨(blk_cell BK662.out 0).trans rfl, (blk_cell BK662.out 1).trans rfl, (blk_cell BK663.out 0).trans rfl, (blk_cell BK663.out 1).trans rfl⟩ (fun hHeld => ?_)
 clear hK K
 refine Short.normS_ ?_
 refine one_ (i := 10) (N := some 15) #[true, true, true, true, true, true, true, true, true, true, true, false] rfl rfl (one_of HT_.out (by kernel_rfl)) (by decide) (fun K hK => ?_)
 refine Short.goesD_ Try.func27 #[.string t665, .string t666] ?_
 with_reducible refine (offcutref03_Low.calls k t665 t666 t667 t668 _ A5.out).mono ?_
 rintro e w12 ⟨rfl, hb⟩
 refine ⟨_, rfl, ?_⟩
 replace BK662 := Aside0.mk (blk_below BK662.out hb)
 replace BK663 := Aside0.mk (blk_below BK663.out hb)
 replace BK664 := Aside0.mk (blk_below BK664.out hb)
 replace HB := Aside0.mk (below_step HB.out hb)
 (try clear hb)
 refine hK.out _ _ ⟨(blk_cell BK662.out 0).trans rfl, (blk_cell BK662.out 1).trans rfl, (blk_cell BK663.out 0).trans rfl, (blk_cell BK663.out 1).trans rfl⟩ (fun hHeld => ?_)
 clear hK K
 refine Short.normS_ ?_
 refine one_ (i := 11) (N := none) #[true, true, true, true, true, true, true, true, true, true, true, true] rfl rfl (one_of HT_.out (by kernel_rfl)) (by decide) (fun K hK => ?_)
 have hs13 : w12.cell? ⟨gb664, 0, none⟩ = some (.string (⟨#[]⟩ : ByteArray)) := (blk_cell BK664.out 0).trans rfl
 have hfs13 := blk_frozen BK664.out 0
 have hns13_0 := NB662_664.out
 have hns13_1 := NB663_664.out
 have hms13_0 := NB664_662.out
 have hms13_1 := NB664_663.out
 have hs14 : w12.cell? ⟨gb664, 1, none⟩ = some (.string (⟨#[]⟩ : ByteArray)) := (blk_cell BK664.out 1).trans rfl
 have hfs14 := blk_frozen BK664.out 1
 have hns14_0 := NB662_664.out
 have hns14_1 := NB663_664.out
 have hms14_0 := NB664_662.out
 have hms14_1 := NB664_663.out
 refine skip_ (w1 := ?_) (by rfl) rfl ?_ ?_
 rotate_left
 ·go_simp
  rfl
 refine hK.out _ _ ⟨((cell_far (p := ⟨gb664, _, none⟩) NB662_664.out _).trans (((cell_far (p := ⟨gb664, _, none⟩) NB662_664.out _).trans (hHeld.1)))), ((cell_far (p := ⟨gb664, _, none⟩) NB662_664.out _).trans (((cell_far (p := ⟨gb664, _, none⟩) NB662_664.out _).trans (hHeld.2.1)))), ((cell_far (p := ⟨gb664, _, none⟩) NB663_664.out _).trans (((cell_far (p := ⟨gb664, _, none⟩) NB663_664.out _).trans (hHeld.2.2.1)))), ((cell_far (p := ⟨gb664, _, none⟩) NB663_664.out _).trans (((cell_far (p := ⟨gb664, _, none⟩) NB663_664.out _).trans (hHeld.2.2.2))))⟩ (fun hHeld => ?_)
 clear hK K
 refine done_ (done_of HT_.out (by kernel_rfl)) ?_
 try go_wp2
 refine bodyPost_ret (results_cell_row rfl _ _ gb664 34 #[.string t667, .string t668] (0, 0) _ rfl (by (with_reducible repeat (first | refine blk_drewN ?_ _ | refine blk_drew ?_ | refine blk_alloc ?_ _)); refine blk_put (cs := #[.string t667, .string (⟨#[]⟩ : ByteArray)]) ?_ 1 _ rfl; (with_reducible repeat (first | refine blk_drewN ?_ _ | refine blk_drew ?_ | refine blk_alloc ?_ _)); refine blk_put (cs := #[.string (⟨#[]⟩ : ByteArray), .string (⟨#[]⟩ : ByteArray)]) ?_ 0 _ rfl; (with_reducible repeat (first | refine blk_drewN ?_ _ | refine blk_drew ?_ | refine blk_alloc ?_ _)); exact BK664.out) Try.underlying34 rfl (by kernel_rfl)) rfl ?_
 exact ⟨by rfl, by repeat (first | (with_reducible first | exact HB.out | apply below_alloc | apply pw_below_drewN | apply below_drew1 | refine below_set ?_ GE662.out | refine below_set ?_ GE663.out | refine below_set ?_ GE664.out) | exact HB.out)⟩

theorem offcutref03_Mul.ev {a b : Rat} {K J : Nat} (ha : Qn.Sm a K) (hb : Qn.Sm b J) (hK1 : 1 ≤ K) (hK : K + J < 300000) : Ev (fun k => offcutref03_Mul.f k (Zn.tz a.num) (Dec.dec a.den) (Zn.tz b.num) (Dec.dec b.den)) (Zn.tz (a * b).num, Dec.dec (a * b).den) := by
 have la := Dec.dc_len32 hK1 ha.den
 have lb := Dec.dc_len32 (k := J + 1) (by omega) (Num.le_pow hb.den (by omega))
 have P := offcutref01_Mul.ev (Dec.Ds_dc a.den) (Dec.Ds_dc b.den) (by omega) (by omega)
 rw [Dec.dv_dc, Dec.dv_dc] at P
 have L := offcutref03_Low.ev (Zn.abs_mul ha.num hb.num) (Num.mul_lt ha.den hb.den) (Nat.mul_ne_zero a.den_nz b.den_nz) (by omega) (by omega)
 rw [← Rat.mul_def'] at L
 unfold offcutref03_Mul.f
 exact Ev.bind (offcutref02_Mul.ev ha.num hb.num (by omega)) (Ev.bind P (Ev.bind L (Ev.now _)))
/-! ### offcutref03_Turned: function 17 -/
def offcutref03_Turned.f (a0_0 : ByteArray) (a0_1 : ByteArray) : Option (ByteArray × ByteArray) := (offcutref02_Below.f a0_0).bind fun t671 => (if t671 = true then (if 1 + a0_1.size ≤ 9223372036854775807 then (if 1 ≤ (a0_0.size : Int) then (some ((⟨#[45]⟩ : ByteArray) ++ a0_1, a0_0.extract 1 a0_0.size)) else (none)) else (none)) else (some (a0_1, a0_0)))
def offcutref03_Turned.T2 : Bool × List (List Nat × List Nat) := (true, [([], []), ([0], [0]), ([1], [1]), ([], []), ([3], [3]), ([4], [4]), ([2, 5], [2, 5]), ([6, 0, 1, 2, 3, 4, 5, 6], [6])])
def offcutref03_Turned.B2 : List Nat := [0, 1, 3, 0, 8, 24, 63, 127]
theorem offcutref03_Turned.tab2 : rtab .any (opsOf Try.f17 2) = offcutref03_Turned.T2 := by kernel_rfl
theorem offcutref03_Turned.bits2 : waitsOk offcutref03_Turned.T2.2 offcutref03_Turned.B2 = true := by kernel_rfl
set_option maxHeartbeats 8000000 in
set_option maxRecDepth 100000 in
theorem offcutref03_Turned.calls (a0_0 : ByteArray) (a0_1 : ByteArray) (r1 : ByteArray) (r2 : ByteArray) (w : World) (h : offcutref03_Turned.f a0_0 a0_1 = some (r1, r2)) :
  Calls Try.prog 17 #[.agg #[.string a0_0, .string a0_1]] w fun e w' => e = .returned (.agg #[.string r1, .string r2]) ∧ Below w.heap.size w w' := by
 have hu34 := Try.underlying34
 have HB := Aside0.mk (Below.refl w.heap.size w)
 have H : ((offcutref02_Below.f a0_0).bind fun t671 => (if t671 = true then (if 1 + a0_1.size ≤ 9223372036854775807 then (if 1 ≤ (a0_0.size : Int) then (some ((⟨#[45]⟩ : ByteArray) ++ a0_1, a0_0.extract 1 a0_0.size)) else (none)) else (none)) else (some (a0_1, a0_0)))) = some (r1, r2) := h
 clear h
 replace H := Option.bind_eq_some_iff.mp H
 obtain ⟨t671, A20, H⟩ := H
 try dsimp only at H
 have A2 := Aside0.mk A20
 clear A20
 by_cases c3 : t671 = true
 ·subst c3
  have H1 : (if 1 + a0_1.size ≤ 9223372036854775807 then (if 1 ≤ (a0_0.size : Int) then (some ((⟨#[45]⟩ : ByteArray) ++ a0_1, a0_0.extract 1 a0_0.size)) else (none)) else (none)) = some (r1, r2) := by rw [if_pos rfl] at H; exact H
  clear H
  have H := H1
  clear H1
  by_cases c4 : 1 + a0_1.size ≤ 9223372036854775807
  ·rw [if_pos c4] at H
   have c4b0 := eq_true c4
   have c4b1 : decide (1 + a0_1.size ≤ 9223372036854775807) = true := decide_eq_true c4
   try have c4b2 : (9223372036854775807 < 1 + a0_1.size) = False := eq_false (Nat.not_lt.2 c4)
   by_cases c5 : 1 ≤ (a0_0.size : Int)
   ·rw [if_pos c5] at H
    have c5b0 := eq_true c5
    have c5b1 : decide (1 ≤ (a0_0.size : Int)) = true := decide_eq_true c5
    clear c5
    simp only [Option.some.injEq, Prod.mk.injEq] at H
    obtain ⟨rfl, rfl⟩ := H
    go_enter Try.func17, Try.ntmps17
    try go_wp2_with (first | ((with_reducible refine gate_dst (N := 1) rfl ?_); refine Short.boxS_ (N := 1) (cs := #[.string a0_0, .string a0_1]) (t := 34) ?_; intro gb669 hg w6 hbox hb; have BK669 := Aside0.mk (hbox); have GW669 := Aside0.mk ((by rw [hg]; exact (below_size (by repeat (first | (with_reducible first | exact HB.out | apply below_alloc | apply pw_below_drewN | apply below_drew1) | exact HB.out))) : w.heap.size ≤ gb669)); have GE669 := Aside0.mk ((by rw [hg]; exact (below_size (by repeat (first | (with_reducible first | exact HB.out | apply below_alloc | apply pw_below_drewN | apply below_drew1) | exact HB.out))) : w.heap.size ≤ gb669)); replace HB := Aside0.mk (below_step (by repeat (first | (with_reducible first | exact HB.out | apply below_alloc | apply pw_below_drewN | apply below_drew1) | exact HB.out)) hb); clear hb hbox hg) | ((with_reducible refine gate_dst (N := 2) rfl ?_); refine Short.boxS_ (N := 2) (cs := #[.string (⟨#[]⟩ : ByteArray), .string (⟨#[]⟩ : ByteArray)]) (t := 34) ?_; intro gb670 hg w7 hbox hb; have BK670 := Aside0.mk (hbox); have GW670 := Short.sizeB_ (w := w) hg; have GE670 := Short.sizeB_ (w := w) hg; replace HB := Short.stepB_ (w := w) hb; have NB669_670 := Short.ltB_ (g := gb669) hg; have NB670_669 := Short.gtB_ (g := gb669) hg; replace BK669 := Short.blkB_ (g := gb669) hb; clear hb hbox hg; have hnb8 := NB669_670.out; have hnc8 := NB670_669.out; have hcz9_0 : w7.cell? ⟨gb669, 0, none⟩ = some (.string a0_0) := (blk_cell BK669.out 0).trans rfl; have hcz9_1 : w7.cell? ⟨gb669, 1, none⟩ = some (.string a0_1) := (blk_cell BK669.out 1).trans rfl; have hfz9_0 := blk_frozen BK669.out 0; have hfz9_1 := blk_frozen BK669.out 1) | ((with_reducible refine gate_callee (f := 52) rfl ?_); refine Short.goesS_ (some 5) Try.func52 #[.string a0_0] ?_; (with_reducible refine (offcutref02_Below.calls a0_0 true _ A2.out).mono ?_); rintro e w' ⟨rfl, ⟨nd, rfl⟩⟩; refine ⟨_, rfl, ?_⟩; (try (rw [drewN_self w7]; generalize hq_ : World.drewN w7 _ = w7; have n0_ : Aside0 (w7.heap[gb669]? = some (.cells #[.string a0_0, .string a0_1] 34 (0, 0))) := ⟨by rw [← hq_]; exact (by (with_reducible repeat (first | refine blk_drewN ?_ _ | refine blk_drew ?_ | refine blk_alloc ?_ _)); exact BK669.out)⟩; have n1_ : Aside0 (w7.heap[gb670]? = some (.cells #[.string (⟨#[]⟩ : ByteArray), .string (⟨#[]⟩ : ByteArray)] 34 (0, 0))) := ⟨by rw [← hq_]; exact (by (with_reducible repeat (first | refine blk_drewN ?_ _ | refine blk_drew ?_ | refine blk_alloc ?_ _)); exact BK670.out)⟩; have n2_ : Aside0 (Below w.heap.size w w7) := ⟨by rw [← hq_]; exact (by repeat (first | (with_reducible first | exact HB.out | apply below_alloc | apply pw_below_drewN | apply below_drew1 | refine below_set ?_ GE669.out | refine below_set ?_ GE670.out) | exact HB.out))⟩; clear BK669 BK670 HB hq_; have BK669 := n0_; have BK670 := n1_; have HB := n2_; clear n0_ n1_ n2_))))
    replace BK669 := Aside0.mk (blk_drew BK669.out)
    replace BK670 := Aside0.mk (blk_drew BK670.out)
    replace HB := Aside0.mk (below_drew1 HB.out)
    refine start_ (n := 8) (S := fun w' => w'.cell? ⟨gb669, 0, none⟩ = some (.string a0_0) ∧ w'.cell? ⟨gb669, 1, none⟩ = some (.string a0_1)) (ds := []) #[false, false, false, false, false, false, false, false] (by kernel_rfl) rfl rfl ⟨(blk_cell BK669.out 0).trans rfl, (blk_cell BK669.out 1).trans rfl⟩ (fun hHeld => ?_); refine with_tabW offcutref03_Turned.tab2 offcutref03_Turned.bits2 (fun HT_ HW_ => ?_)
    generalize w7.drew = w10 at BK669 BK670 HB hHeld ⊢
    refine Short.pureS_ (i := 0) (N := some 6) #[true, false, false, false, false, false, false, false] (any_of HT_.out (by kernel_rfl)) ?_
    refine Short.pureS_ (i := 3) (N := some 9) #[true, false, false, true, false, false, false, false] (any_of HT_.out (by kernel_rfl)) ?_
    refine Short.takeS_ (i := 1) (N := some 7) #[true, true, false, true, false, false, false, false] (take_ofW HT_.out HW_.out (by kernel_rfl)) hHeld ?_
    refine Short.pureS_ (i := 2) (N := some 8) #[true, true, true, true, false, false, false, false] (any_of HT_.out (by kernel_rfl)) ?_
    refine Short.takeS_ (i := 4) (N := some 10) #[true, true, true, true, true, false, false, false] (take_ofW HT_.out HW_.out (by kernel_rfl)) hHeld ?_
    refine Short.pureS_ (i := 5) (N := some 11) #[true, true, true, true, true, true, false, false] (any_of HT_.out (by kernel_rfl)) ?_
    refine Short.pureS_ (i := 6) (N := some 12) #[true, true, true, true, true, true, true, false] (any_of HT_.out (by kernel_rfl)) ?_
    refine one_ (i := 7) (N := none) #[true, true, true, true, true, true, true, true] rfl rfl (one_of HT_.out (by kernel_rfl)) (by decide) (fun K hK => ?_)
    have hs11 : w10.cell? ⟨gb670, 0, none⟩ = some (.string (⟨#[]⟩ : ByteArray)) := (blk_cell BK670.out 0).trans rfl
    have hfs11 := blk_frozen BK670.out 0
    have hns11_0 := NB669_670.out
    have hms11_0 := NB670_669.out
    have hs12 : w10.cell? ⟨gb670, 1, none⟩ = some (.string (⟨#[]⟩ : ByteArray)) := (blk_cell BK670.out 1).trans rfl
    have hfs12 := blk_frozen BK670.out 1
    have hns12_0 := NB669_670.out
    have hms12_0 := NB670_669.out
    refine skip_ (w1 := ?_) (by rfl) rfl ?_ ?_
    rotate_left
    ·go_simp
     rfl
    refine hK.out _ _ ⟨((cell_far (p := ⟨gb670, _, none⟩) NB669_670.out _).trans (((cell_far (p := ⟨gb670, _, none⟩) NB669_670.out _).trans (hHeld.1)))), ((cell_far (p := ⟨gb670, _, none⟩) NB669_670.out _).trans (((cell_far (p := ⟨gb670, _, none⟩) NB669_670.out _).trans (hHeld.2))))⟩ (fun hHeld => ?_)
    clear hK K
    refine done_ (done_of HT_.out (by kernel_rfl)) ?_
    try go_wp2
    refine bodyPost_ret (results_cell_row rfl _ _ gb670 34 #[.string ((⟨#[45]⟩ : ByteArray) ++ a0_1), .string (a0_0.extract 1 a0_0.size)] (0, 0) _ rfl (by (with_reducible repeat (first | refine blk_drewN ?_ _ | refine blk_drew ?_ | refine blk_alloc ?_ _)); refine blk_put (cs := #[.string ((⟨#[45]⟩ : ByteArray) ++ a0_1), .string (⟨#[]⟩ : ByteArray)]) ?_ 1 _ rfl; (with_reducible repeat (first | refine blk_drewN ?_ _ | refine blk_drew ?_ | refine blk_alloc ?_ _)); refine blk_put (cs := #[.string (⟨#[]⟩ : ByteArray), .string (⟨#[]⟩ : ByteArray)]) ?_ 0 _ rfl; (with_reducible repeat (first | refine blk_drewN ?_ _ | refine blk_drew ?_ | refine blk_alloc ?_ _)); exact BK670.out) Try.underlying34 rfl (by kernel_rfl)) rfl ?_
    exact ⟨by rfl, by repeat (first | (with_reducible first | exact HB.out | apply below_alloc | apply pw_below_drewN | apply below_drew1 | refine below_set ?_ GE669.out | refine below_set ?_ GE670.out) | exact HB.out)⟩
   ·rw [if_neg c5] at H
    exact absurd H (by simp)
  ·rw [if_neg c4] at H
   exact absurd H (by simp)
 ·replace c3 := Bool.eq_false_iff.mpr c3
  subst c3
  have H1 : (some (a0_1, a0_0)) = some (r1, r2) := by rw [if_neg (show ¬ (false = true) by decide)] at H; exact H
  clear H
  have H := H1
  clear H1
  simp only [Option.some.injEq, Prod.mk.injEq] at H
  obtain ⟨rfl, rfl⟩ := H
  go_enter Try.func17, Try.ntmps17
  go_wp2_with (first | ((with_reducible refine gate_dst (N := 1) rfl ?_); refine Short.boxS_ (N := 1) (cs := #[.string a0_0, .string a0_1]) (t := 34) ?_; intro gb669 hg w13 hbox hb; have BK669 := Aside0.mk (hbox); have GW669 := Aside0.mk ((by rw [hg]; exact (below_size (by repeat (first | (with_reducible first | exact HB.out | apply below_alloc | apply pw_below_drewN | apply below_drew1) | exact HB.out))) : w.heap.size ≤ gb669)); have GE669 := Aside0.mk ((by rw [hg]; exact (below_size (by repeat (first | (with_reducible first | exact HB.out | apply below_alloc | apply pw_below_drewN | apply below_drew1) | exact HB.out))) : w.heap.size ≤ gb669)); replace HB := Aside0.mk (below_step (by repeat (first | (with_reducible first | exact HB.out | apply below_alloc | apply pw_below_drewN | apply below_drew1) | exact HB.out)) hb); clear hb hbox hg) | ((with_reducible refine gate_dst (N := 2) rfl ?_); refine Short.boxS_ (N := 2) (cs := #[.string (⟨#[]⟩ : ByteArray), .string (⟨#[]⟩ : ByteArray)]) (t := 34) ?_; intro gb670 hg w14 hbox hb; have BK670 := Aside0.mk (hbox); have GW670 := Short.sizeB_ (w := w) hg; have GE670 := Short.sizeB_ (w := w) hg; replace HB := Short.stepB_ (w := w) hb; have NB669_670 := Short.ltB_ (g := gb669) hg; have NB670_669 := Short.gtB_ (g := gb669) hg; replace BK669 := Short.blkB_ (g := gb669) hb; clear hb hbox hg; have hnb15 := NB669_670.out; have hnc15 := NB670_669.out; have hcz16_0 : w14.cell? ⟨gb669, 0, none⟩ = some (.string a0_0) := (blk_cell BK669.out 0).trans rfl; have hcz16_1 : w14.cell? ⟨gb669, 1, none⟩ = some (.string a0_1) := (blk_cell BK669.out 1).trans rfl; have hfz16_0 := blk_frozen BK669.out 0; have hfz16_1 := blk_frozen BK669.out 1) | ((with_reducible refine gate_callee (f := 52) rfl ?_); refine Short.goesS_ (some 5) Try.func52 #[.string a0_0] ?_; (with_reducible refine (offcutref02_Below.calls a0_0 false _ A2.out).mono ?_); rintro e w' ⟨rfl, ⟨nd, rfl⟩⟩; refine ⟨_, rfl, ?_⟩; (try (rw [drewN_self w14]; generalize hq_ : World.drewN w14 _ = w14; have n0_ : Aside0 (w14.heap[gb669]? = some (.cells #[.string a0_0, .string a0_1] 34 (0, 0))) := ⟨by rw [← hq_]; exact (by (with_reducible repeat (first | refine blk_drewN ?_ _ | refine blk_drew ?_ | refine blk_alloc ?_ _)); exact BK669.out)⟩; have n1_ : Aside0 (w14.heap[gb670]? = some (.cells #[.string (⟨#[]⟩ : ByteArray), .string (⟨#[]⟩ : ByteArray)] 34 (0, 0))) := ⟨by rw [← hq_]; exact (by (with_reducible repeat (first | refine blk_drewN ?_ _ | refine blk_drew ?_ | refine blk_alloc ?_ _)); exact BK670.out)⟩; have n2_ : Aside0 (Below w.heap.size w w14) := ⟨by rw [← hq_]; exact (by repeat (first | (with_reducible first | exact HB.out | apply below_alloc | apply pw_below_drewN | apply below_drew1 | refine below_set ?_ GE669.out | refine below_set ?_ GE670.out) | exact HB.out))⟩; clear BK669 BK670 HB hq_; have BK669 := n0_; have BK670 := n1_; have HB := n2_; clear n0_ n1_ n2_)); have hczz_0 : w14.cell? ⟨gb669, 0, none⟩ = some (.string a0_0) := (blk_cell BK669.out 0).trans rfl; have hczz_1 : w14.cell? ⟨gb669, 1, none⟩ = some (.string a0_1) := (blk_cell BK669.out 1).trans rfl; have hcz17_0 : w14.cell? ⟨gb670, 0, none⟩ = some (.string (⟨#[]⟩ : ByteArray)) := (blk_cell BK670.out 0).trans rfl; have hcz17_1 : w14.cell? ⟨gb670, 1, none⟩ = some (.string (⟨#[]⟩ : ByteArray)) := (blk_cell BK670.out 1).trans rfl; have hfz17_0 := blk_frozen BK670.out 0; have hfz17_1 := blk_frozen BK670.out 1))
  refine bodyPost_ret (results_cell_row rfl _ _ gb670 34 #[.string a0_1, .string a0_0] (0, 0) _ rfl (by (with_reducible repeat (first | refine blk_drewN ?_ _ | refine blk_drew ?_ | refine blk_alloc ?_ _)); refine blk_put (cs := #[.string a0_1, .string (⟨#[]⟩ : ByteArray)]) ?_ 1 _ rfl; (with_reducible repeat (first | refine blk_drewN ?_ _ | refine blk_drew ?_ | refine blk_alloc ?_ _)); refine blk_put (cs := #[.string (⟨#[]⟩ : ByteArray), .string (⟨#[]⟩ : ByteArray)]) ?_ 0 _ rfl; (with_reducible repeat (first | refine blk_drewN ?_ _ | refine blk_drew ?_ | refine blk_alloc ?_ _)); exact BK670.out) Try.underlying34 rfl (by kernel_rfl)) rfl ?_
  exact ⟨by rfl, by repeat (first | (with_reducible first | exact HB.out | apply below_alloc | apply pw_below_drewN | apply below_drew1 | refine below_set ?_ GE669.out | refine below_set ?_ GE670.out) | exact HB.out)⟩

theorem offcutref03_Turned.sem {a : Rat} {K : Nat} (ha : Qn.Sm a K) (hK : K < 300000) (h0 : a ≠ 0) : offcutref03_Turned.f (Zn.tz a.num) (Dec.dec a.den) = some (Zn.tz a⁻¹.num, Dec.dec a⁻¹.den) := by
 have la := Dec.dc_len32 (k := K + 1) (by omega) (Num.le_pow ha.den (by omega))
 have hn : a.num ≠ 0 := fun e => h0 (Rat.num_eq_zero.1 e)
 have d0 := a.den_nz
 unfold offcutref03_Turned.f
 rw [offcutref02_Below.sem, Option.bind_some, Rat.num_inv, Rat.den_inv, if_neg hn]
 by_cases h : a.num < 0
 ·have hs := Zn.tz_size_pos a.num
  rw [if_pos (decide_eq_true h), if_pos (by rw [Zn.dec_size]; omega), if_pos (by omega), Zn.tz_neg h, Zn.minus_tail, Int.sign_eq_neg_one_of_neg h, Zn.tz_neg (show (-1 : Int) * (a.den : Int) < 0 by omega), show ((-1 : Int) * (a.den : Int)).natAbs = a.den from by omega]
 ·rw [if_neg (by rw [decide_eq_false h]; decide), Zn.tz_pos h, Int.sign_eq_one_of_pos (show 0 < a.num by omega), Int.one_mul, Zn.tz_nat]
end Go.Proofs.Ytcdkopidgibijaa.PR
