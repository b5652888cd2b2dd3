/- Several functions' printed texts in one file. -/
import Derived.Test.YtcdkopidgibijaaShort
import Derived.Test.YtcdkopidgibijaaRat
import Derived.Test.YtcdkopidgibijaaPRg0
import Derived.Test.YtcdkopidgibijaaPRg15
namespace Go.Proofs.Ytcdkopidgibijaa.PR
open Go.RowKit Go.Proofs.YtcdkopidgibijaaW.PrintWords Go.Proofs.YtcdkopidgibijaaW.PrintLast Go.Proofs.YtcdkopidgibijaaW.PrintMore
attribute [local go_sem] max2_int min2_int max_two min_two max_three min_three max_four min_four   -- for this text's walks alone
set_option linter.unusedVariables false
set_option linter.unusedSimpArgs false
/-! ### rat_den: function 46 -/
def rat_den.f (k : Nat) (a0_0 : Bool) (l0_1 : List Int) (l0_2 : List Int) : Option (List Int) := (nat_Bits.f k l0_2).bind fun t226 => (if t226 = 0 then ((nat_Of.f k 1).bind fun t227 => (some t227)) else (some l0_2))
set_option maxHeartbeats 8000000 in
set_option maxRecDepth 100000 in
theorem rat_den.calls (k : Nat) (a0_0 : Bool) (A0_1 : Option Addr) (c0_1 : Nat) (l0_1 : List Int) (P0_2_ : Nat → Prop) (A0_2 : Option Addr) (c0_2 : Nat) (l0_2 : List Int) (r : List Int) (w : World) (hr0_1 : Kd.C (Kd.int .u32) w A0_1 l0_1.length l0_1) (hc0_1 : l0_1.length ≤ c0_1) (hs0_2 : Kd.V (Kd.int .u32) 89 w w.heap.size (fun k_ => P0_2_ k_) (.slice A0_2 l0_2.length c0_2) l0_2) (h : rat_den.f k a0_0 l0_1 l0_2 = some r) :
  Calls Try.prog 46 #[.agg #[.bool a0_0, .slice A0_1 l0_1.length c0_1, .slice A0_2 l0_2.length c0_2]] w fun e w' => ∃ v0_ : Value, e = .returned (v0_) ∧ Kd.V (Kd.int .u32) 89 w' w.heap.size (fun k_ => (P0_2_ k_ ∨ w.heap.size ≤ k_)) v0_ r ∧ Below w.heap.size w w' := by
 have hu27 := Try.underlying27
 have HR0_1 := Aside0.mk hr0_1
 have HC0_1 := Aside0.mk hc0_1
 clear hr0_1 hc0_1
 have HO0_2 := Aside0.mk (show Kd.V (Kd.int .u32) 89 w w.heap.size (fun k_ => (P0_2_ k_ ∨ w.heap.size ≤ k_)) (.slice A0_2 l0_2.length c0_2) l0_2 from Kd.V_mono hs0_2 (fun k_ hk => .inl hk))
 have HB := Aside0.mk (Below.refl w.heap.size w)
 have H : ((nat_Bits.f k l0_2).bind fun t226 => (if t226 = 0 then ((nat_Of.f k 1).bind fun t227 => (some t227)) else (some l0_2))) = some r := h
 clear h
 replace H := Option.bind_eq_some_iff.mp H
 obtain ⟨t226, A20, H⟩ := H
 try dsimp only at H
 have A2 := Aside0.mk A20
 clear A20
 by_cases c3 : t226 = 0
 ·rw [if_pos c3] at H
  have c3b0 : (t226 == 0) = true := beq_iff_eq.mpr c3
  have c3b1 : (t226 != 0) = false := bne_eq_false_iff_eq.mpr c3
  clear c3
  replace H := Option.bind_eq_some_iff.mp H
  obtain ⟨t227, A40, H⟩ := H
  replace H : (some t227) = some r := H
  have A4 := Aside0.mk A40
  clear A40
  obtain rfl := Option.some.inj H
  go_enter Try.func46, Try.ntmps46
  go_wp2_with (first | ((with_reducible refine gate_dst (N := 1) rfl ?_); refine Short.boxS_ (N := 1) (cs := #[.bool a0_0, .slice A0_1 l0_1.length c0_1, .slice A0_2 l0_2.length c0_2]) (t := 27) ?_; intro gb225 hg w5 hbox hb; replace HO0_2 := Aside0.mk (Kd.V_below (Kd.V_elderB HO0_2.out gb225 (Nat.le_of_eq hg.symm)) hb); have BK225 := Aside0.mk (hbox); have GW225 := Aside0.mk ((by rw [hg]; exact (below_size (by repeat (first | (with_reducible first | exact HB.out | apply below_alloc | apply pw_below_drewN | apply below_drew1) | exact HB.out))) : w.heap.size ≤ gb225)); have GE225 := Aside0.mk ((by rw [hg]; exact (below_size (by repeat (first | (with_reducible first | exact HB.out | apply below_alloc | apply pw_below_drewN | apply below_drew1) | exact HB.out))) : w.heap.size ≤ gb225)); replace HB := Aside0.mk (below_step (by repeat (first | (with_reducible first | exact HB.out | apply below_alloc | apply pw_below_drewN | apply below_drew1) | exact HB.out)) hb); clear hb hbox hg; have hcz6_0 : w5.cell? ⟨gb225, 0, none⟩ = some (.bool a0_0) := (blk_cell BK225.out 0).trans rfl; have hcz6_1 : w5.cell? ⟨gb225, 1, none⟩ = some (.slice A0_1 l0_1.length c0_1) := (blk_cell BK225.out 1).trans rfl; have hcz6_2 : w5.cell? ⟨gb225, 2, none⟩ = some (.slice A0_2 l0_2.length c0_2) := (blk_cell BK225.out 2).trans rfl; have hfz6_0 := blk_frozen BK225.out 0; have hfz6_1 := blk_frozen BK225.out 1; have hfz6_2 := blk_frozen BK225.out 2) | ((with_reducible refine gate_callee (f := 43) rfl ?_); refine Short.goesS_ (some 5) Try.func43 #[.slice A0_2 l0_2.length c0_2] ?_; (with_reducible refine (nat_Bits.calls k _ _ l0_2 t226 _ ((Kd.V_reads' HO0_2.out).2.2) ((Kd.V_reads' HO0_2.out).2.1) A2.out).mono ?_); rintro e w7 ⟨rfl, hb⟩; refine ⟨_, rfl, ?_⟩; replace HO0_2 := Aside0.mk (Kd.V_below HO0_2.out hb); replace BK225 := Aside0.mk (blk_below BK225.out hb); replace HB := Aside0.mk (below_step HB.out hb); (try clear hb)) | ((with_reducible refine gate_callee (f := 37) rfl ?_); refine Short.goesS_ (some 7) Try.func37 #[.int .u64 1] ?_; (with_reducible refine (nat_Of.calls k 1 t227 _ A4.out).mono ?_); rintro e w8 ⟨v228, rfl, ho0, hb⟩; refine ⟨_, rfl, ?_⟩; replace HO0_2 := Aside0.mk (Kd.V_elder' HO0_2.out (Kd.R_base ho0) hb); have HO229 := Aside0.mk (Kd.R_lower (Kd.R_newM (M := fun k_ => (w.heap.size ≤ k_)) ho0 (below_size HB.out) (fun k_ h_ => h_)) (below_size HB.out)); replace BK225 := Aside0.mk (blk_below BK225.out hb); replace HB := Aside0.mk (below_step HB.out hb); (try clear hb); (try clear ho0)))
  go_ret
  exact ⟨_, by rfl, Kd.V_mono (Kd.R_V (by (with_reducible repeat (first | apply Kd.R_alloc | apply Kd.R_drewN | apply Kd.R_drew)); exact Kd.R_mono HO229.out (fun _ hk => hk.1))) (fun k_ hk => by first | exact ⟨(.inr (hk.1)), hk.2⟩ | exact (.inr (hk))), by repeat (first | (with_reducible first | exact HB.out | apply below_alloc | apply pw_below_drewN | apply below_drew1 | refine below_set ?_ GE225.out) | exact HB.out)⟩
 ·rw [if_neg c3] at H
  have c3b0 : (t226 == 0) = false := beq_eq_false_iff_ne.mpr c3
  have c3b1 : (t226 != 0) = true := bne_iff_ne.mpr c3
  obtain rfl := Option.some.inj H
  go_enter Try.func46, Try.ntmps46
  go_wp2_with (first | ((with_reducible refine gate_dst (N := 1) rfl ?_); refine Short.boxS_ (N := 1) (cs := #[.bool a0_0, .slice A0_1 l0_1.length c0_1, .slice A0_2 l0_2.length c0_2]) (t := 27) ?_; intro gb225 hg w9 hbox hb; replace HO0_2 := Aside0.mk (Kd.V_below (Kd.V_elderB HO0_2.out gb225 (Nat.le_of_eq hg.symm)) hb); have BK225 := Aside0.mk (hbox); have GW225 := Aside0.mk ((by rw [hg]; exact (below_size (by repeat (first | (with_reducible first | exact HB.out | apply below_alloc | apply pw_below_drewN | apply below_drew1) | exact HB.out))) : w.heap.size ≤ gb225)); have GE225 := Aside0.mk ((by rw [hg]; exact (below_size (by repeat (first | (with_reducible first | exact HB.out | apply below_alloc | apply pw_below_drewN | apply below_drew1) | exact HB.out))) : w.heap.size ≤ gb225)); replace HB := Aside0.mk (below_step (by repeat (first | (with_reducible first | exact HB.out | apply below_alloc | apply pw_below_drewN | apply below_drew1) | exact HB.out)) hb); clear hb hbox hg; have hcz10_0 : w9.cell? ⟨gb225, 0, none⟩ = some (.bool a0_0) := (blk_cell BK225.out 0).trans rfl; have hcz10_1 : w9.cell? ⟨gb225, 1, none⟩ = some (.slice A0_1 l0_1.length c0_1) := (blk_cell BK225.out 1).trans rfl; have hcz10_2 : w9.cell? ⟨gb225, 2, none⟩ = some (.slice A0_2 l0_2.length c0_2) := (blk_cell BK225.out 2).trans rfl; have hfz10_0 := blk_frozen BK225.out 0; have hfz10_1 := blk_frozen BK225.out 1; have hfz10_2 := blk_frozen BK225.out 2) | ((with_reducible refine gate_callee (f := 43) rfl ?_); refine Short.goesS_ (some 5) Try.func43 #[.slice A0_2 l0_2.length c0_2] ?_; (with_reducible refine (nat_Bits.calls k _ _ l0_2 t226 _ ((Kd.V_reads' HO0_2.out).2.2) ((Kd.V_reads' HO0_2.out).2.1) A2.out).mono ?_); rintro e w11 ⟨rfl, hb⟩; refine ⟨_, rfl, ?_⟩; replace HO0_2 := Aside0.mk (Kd.V_below HO0_2.out hb); replace BK225 := Aside0.mk (blk_below BK225.out hb); replace HB := Aside0.mk (below_step HB.out hb); (try clear hb); have hcz12_0 : w11.cell? ⟨gb225, 0, none⟩ = some (.bool a0_0) := (blk_cell BK225.out 0).trans rfl; have hcz12_1 : w11.cell? ⟨gb225, 1, none⟩ = some (.slice A0_1 l0_1.length c0_1) := (blk_cell BK225.out 1).trans rfl; have hcz12_2 : w11.cell? ⟨gb225, 2, none⟩ = some (.slice A0_2 l0_2.length c0_2) := (blk_cell BK225.out 2).trans rfl; have hfz12_0 := blk_frozen BK225.out 0; have hfz12_1 := blk_frozen BK225.out 1; have hfz12_2 := blk_frozen BK225.out 2))
  go_ret
  exact ⟨_, by rfl, by (with_reducible repeat (first | apply Kd.V_alloc | apply Kd.V_drewN | apply Kd.V_drew)); exact Kd.V_mono HO0_2.out (fun _ hk => hk.1), by repeat (first | (with_reducible first | exact HB.out | apply below_alloc | apply pw_below_drewN | apply below_drew1 | refine below_set ?_ GE225.out) | exact HB.out)⟩

theorem rat_den.ev {m : Bool} {l1 l2 : List Int} (hW : Num.Ws l2) (hl : l2.length < 1000000) : Ev (fun k => rat_den.f k m l1 l2) (Qn.dl l2) := by
 have B := nat_Bits.ev hW (by omega)
 unfold rat_den.f Qn.dl
 refine Ev.bind B ?_
 have hb := Num.blen_lt (Num.nv l2)
 by_cases h : Num.nv l2 = 0
 ·rw [if_pos h]
  exact Dec.yes (by rw [h, Num.blen_zero]; rfl) (Ev.bind (nat_Of.ev 1 (by omega)) (Ev.now _))
 ·rw [if_neg h]
  refine Dec.no (fun e => h ?_) (Ev.now _)
  have e0 : Num.blen (Num.nv l2) = 0 := by omega
  rw [e0, Nat.pow_zero] at hb
  omega
/-! ### whole_Of: function 26 -/
def whole_Of.f (k : Nat) (a0 : Int) : Option (Bool × List Int) := (nat_Of.f k (IntKind.u64.wrap (mx a0 (wrap64 (-a0))))).bind fun t231 => ((whole_Make.f k (decide (a0 < 0)) t231).bind fun bt234 => (some (bt234.1, bt234.2)))
set_option maxHeartbeats 8000000 in
set_option maxRecDepth 100000 in
theorem whole_Of.calls (k : Nat) (a0 : Int) (r1 : Bool) (r2 : List Int) (w : World) (h : whole_Of.f k a0 = some (r1, r2)) :
  Calls Try.prog 26 #[.int .i64 a0] w fun e w' => ∃ v1_ : Value, e = .returned (.agg #[.bool r1, v1_]) ∧ Kd.R (Kd.int .u32) 89 w' w.heap.size (fun _ => True) v1_ r2 ∧ Below w.heap.size w w' := by
 have hu25 := Try.underlying25
 have HB := Aside0.mk (Below.refl w.heap.size w)
 have H : ((nat_Of.f k (IntKind.u64.wrap (mx a0 (wrap64 (-a0))))).bind fun t231 => ((whole_Make.f k (decide (a0 < 0)) t231).bind fun bt234 => (some (bt234.1, bt234.2)))) = some (r1, r2) := h
 clear h
 obtain ⟨ji2, hji2⟩ : ∃ j_ : Int, (mx a0 (wrap64 (-a0))) = j_ := ⟨_, rfl⟩
 replace H : ((nat_Of.f k (IntKind.u64.wrap (ji2))).bind fun t231 => ((whole_Make.f k (decide (a0 < 0)) t231).bind fun bt234 => (some (bt234.1, bt234.2)))) = some (r1, r2) := by first | (rw [hji2] at H; exact H) | (simp only [hji2] at H ⊢; exact H)
 have hji2_ : (if a0 < (wrap64 (-a0)) then (wrap64 (-a0)) else a0) = ji2 := hji2
 replace H := Option.bind_eq_some_iff.mp H
 obtain ⟨t231, A30, H⟩ := H
 try dsimp only at H
 have A3 := Aside0.mk A30
 clear A30
 replace H := Option.bind_eq_some_iff.mp H
 obtain ⟨⟨t234, t235⟩, A40, H⟩ := H
 replace H : (some (t234, t235)) = some (r1, r2) := H
 have A4 := Aside0.mk A40
 clear A40
 simp only [Option.some.injEq, Prod.mk.injEq] at H
 obtain ⟨rfl, rfl⟩ := H
 go_enter Try.func26, Try.ntmps26
 go_wp2_with (first | ((with_reducible refine gate_dst (N := 2) rfl ?_); refine Short.boxS_ (N := 2) (cs := #[.bool false, .slice none 0 0]) (t := 25) ?_; intro gb230 hg w5 hbox hb; have BK230 := Aside0.mk (hbox); have GW230 := Aside0.mk ((by rw [hg]; exact (below_size (by repeat (first | (with_reducible first | exact HB.out | apply below_alloc | apply pw_below_drewN | apply below_drew1) | exact HB.out))) : w.heap.size ≤ gb230)); have GE230 := Aside0.mk ((by rw [hg]; exact (below_size (by repeat (first | (with_reducible first | exact HB.out | apply below_alloc | apply pw_below_drewN | apply below_drew1) | exact HB.out))) : w.heap.size ≤ gb230)); replace HB := Aside0.mk (below_step (by repeat (first | (with_reducible first | exact HB.out | apply below_alloc | apply pw_below_drewN | apply below_drew1) | exact HB.out)) hb); clear hb hbox hg) | ((with_reducible refine gate_callee (f := 37) rfl ?_); refine goesL_ (some 10) rfl rfl Try.func37 (by kernel_rfl) rfl #[.int .u64 (IntKind.u64.wrap (ji2))] rfl (by (try simp only [List.map_toArray, List.map_cons, List.map_nil]); first | done | (simp only [hji2]; rfl) | rfl) ?_; (with_reducible refine (nat_Of.calls k (IntKind.u64.wrap (ji2)) t231 _ A3.out).mono ?_); rintro e w6 ⟨v232, rfl, ho0, hb⟩; refine ⟨_, rfl, ?_⟩; have HO233 := Aside0.mk (Kd.R_lower ho0 (below_size HB.out)); replace BK230 := Aside0.mk (blk_below BK230.out hb); replace HB := Aside0.mk (below_step HB.out hb); (try clear hb); (try clear ho0); obtain ⟨Ao7, co7, eo7⟩ := Kd.R_slice HO233.out; subst eo7) | ((with_reducible refine gate_callee (f := 45) rfl ?_); refine Short.goesS_ (some 11) Try.func45 #[.bool (decide (a0 < 0)), .slice Ao7 t231.length co7] ?_; (with_reducible refine (whole_Make.calls k (decide (a0 < 0)) _ _ t231 t234 t235 _ ((Kd.R_reads' HO233.out).2.2) ((Kd.R_reads' HO233.out).2.1) A4.out).mono ?_); rintro e w8 ⟨v236, rfl, ho0, hb⟩; refine ⟨_, rfl, ?_⟩; have HO237 := Aside0.mk (Kd.R_lower (Kd.R_new' ho0 (Kd.R_lt HO233.out)) (below_size HB.out)); replace HO233 := Aside0.mk (Kd.R_elder' HO233.out (Kd.R_base ho0) hb); replace BK230 := Aside0.mk (blk_below BK230.out hb); replace HB := Aside0.mk (below_step HB.out hb); (try clear hb); (try clear ho0); have hcz9_0 : w8.cell? ⟨gb230, 0, none⟩ = some (.bool false) := (blk_cell BK230.out 0).trans rfl; have hcz9_1 : w8.cell? ⟨gb230, 1, none⟩ = some (.slice none 0 0) := (blk_cell BK230.out 1).trans rfl; have hfz9_0 := blk_frozen BK230.out 0; have hfz9_1 := blk_frozen BK230.out 1; obtain ⟨Ao10, co10, eo10⟩ := Kd.R_slice HO237.out; subst eo10))
 refine bodyPost_ret (results_cell_row rfl _ _ gb230 25 #[.bool t234, .slice Ao10 t235.length co10] (0, 0) _ rfl (by (with_reducible repeat (first | refine blk_drewN ?_ _ | refine blk_drew ?_ | refine blk_alloc ?_ _)); refine blk_put (cs := #[.bool t234, .slice none 0 0]) ?_ 1 _ rfl; (with_reducible repeat (first | refine blk_drewN ?_ _ | refine blk_drew ?_ | refine blk_alloc ?_ _)); refine blk_put (cs := #[.bool false, .slice none 0 0]) ?_ 0 _ rfl; (with_reducible repeat (first | refine blk_drewN ?_ _ | refine blk_drew ?_ | refine blk_alloc ?_ _)); exact BK230.out) Try.underlying25 rfl (by kernel_rfl)) rfl ?_
 exact ⟨_, by first | rfl | (simp [errW_none, errW_some] <;> rfl) | (simp only [← hji2]; first | rfl | (simp [errW_none, errW_some] <;> rfl)) | (simp [*, errW_none, errW_some] <;> rfl), by (with_reducible repeat (first | apply Kd.R_alloc | apply Kd.R_drewN | apply Kd.R_drew)); exact Kd.R_mono (Kd.R_far (p := ⟨gb230, 1, none⟩) (Kd.R_far (p := ⟨gb230, 0, none⟩) (Kd.R_types HO237.out BK230.out (by decide)) (fun _ hk => hk.2) (.bool t234)) (fun _ hk => hk.2) (.slice Ao10 t235.length co10)) (fun _ hk => trivial), by repeat (first | (with_reducible first | exact HB.out | apply below_alloc | apply pw_below_drewN | apply below_drew1 | refine below_set ?_ GE230.out) | exact HB.out)⟩

theorem whole_Of.ev (n : Int) (h0 : -9223372036854775808 ≤ n) (h1 : n < 9223372036854775808) : Ev (fun k => whole_Of.f k n) (Zn.zd n) := by
 have e : IntKind.u64.wrap (mx n (wrap64 (-n))) = (n.natAbs : Int) := by
  have u : ∀ x : Int, IntKind.u64.wrap x = x % 18446744073709551616 := fun x => by simp [IntKind.wrap, IntKind.bits, IntKind.signed]
  rw [u]
  by_cases hm : n = -9223372036854775808
  ·subst hm
   have w : wrap64 (- (-9223372036854775808 : Int)) = -9223372036854775808 := by unfold wrap64; omega
   rw [w]
   unfold mx
   split <;> omega
  ·rw [Dec.w64 (by omega) (by omega)]
   unfold mx
   split <;> omega
 have O := nat_Of.ev n.natAbs (by omega)
 unfold whole_Of.f
 rw [e]
 have M := whole_Make.ev (Zn.Is.nd (K := 2) (n := n.natAbs) (m := decide (n < 0)) (by omega)) (by omega)
 rw [Zn.zv_self] at M
 exact Ev.bind O (Ev.bind M (Ev.now _))
/-! ### nat_Mul: function 66 -/
mutual
def nat_Mul.l0 : Nat → List Int → List Int → List Int → Int → Int → Option (List Int)
 | 0, _, _, _, _, _ => none
 | k + 1, x1, x5, x17, x18, x19 => if x19 < x18 then (if 0 ≤ x19 then (if x19 < (x17.length : Int) then (nat_Mul.l1 k x1 x5 x19 (rd x17 x19) 0 x17 x18 x19 x1 (x1.length : Int) 0) else (none)) else (none)) else ((nat_trim.f k x5).bind fun t241 => (some t241))
def nat_Mul.l1 : Nat → List Int → List Int → Int → Int → Int → List Int → Int → Int → List Int → Int → Int → Option (List Int)
 | 0, _, _, _, _, _, _, _, _, _, _, _ => none
 | k + 1, x1, x5, x6, x7, x8, x17, x18, x19, x24, x25, x26 => if x26 < x25 then (if 0 ≤ x26 then (if x26 < (x24.length : Int) then (if 0 ≤ (wrap64 (x6 + x26)) then (if (wrap64 (x6 + x26)) < (x5.length : Int) then (nat_Mul.l1 k x1 (x5.set ((wrap64 (x6 + x26)) : Int).toNat ((IntKind.u64.wrap (x8 + (IntKind.u64.wrap ((IntKind.u64.wrap ((IntKind.u64.wrap (x7)) * (IntKind.u64.wrap (rd x24 x26)))) + (IntKind.u64.wrap (rd x5 (wrap64 (x6 + x26)))))))) % 4294967296)) x6 x7 ((IntKind.u64.wrap (x8 + (IntKind.u64.wrap ((IntKind.u64.wrap ((IntKind.u64.wrap (x7)) * (IntKind.u64.wrap (rd x24 x26)))) + (IntKind.u64.wrap (rd x5 (wrap64 (x6 + x26)))))))) / 4294967296) x17 x18 x19 x24 x25 (wrap64 (x26 + 1))) else (none)) else (none)) else (none)) else (none)) else (if 0 ≤ (wrap64 (x6 + (x1.length : Int))) then (if (wrap64 (x6 + (x1.length : Int))) < (x5.length : Int) then (nat_Mul.l0 k x1 (x5.set ((wrap64 (x6 + (x1.length : Int))) : Int).toNat ((x8) % 4294967296)) x17 x18 (wrap64 (x19 + 1))) else (none)) else (none))
end
def nat_Mul.f (k : Nat) (l0 : List Int) (l1 : List Int) : Option (List Int) := if 0 ≤ (wrap64 ((l0.length : Int) + (l1.length : Int))) then (if (wrap64 ((l0.length : Int) + (l1.length : Int)) : Int).toNat ≤ 70368744177664 then (nat_Mul.l0 k l1 (List.replicate (wrap64 ((l0.length : Int) + (l1.length : Int)) : Int).toNat 0) l0 (l0.length : Int) 0) else (none)) else (none)
set_option maxHeartbeats 8000000 in
set_option maxRecDepth 100000 in
theorem nat_Mul.calls (k : Nat) (A0 : Option Addr) (c0 : Nat) (l0 : List Int) (A1 : Option Addr) (c1 : Nat) (l1 : List Int) (r : List Int) (w : World) (hr0 : Kd.C (Kd.int .u32) w A0 l0.length l0) (hc0 : l0.length ≤ c0) (hr1 : Kd.C (Kd.int .u32) w A1 l1.length l1) (hc1 : l1.length ≤ c1) (h : nat_Mul.f k l0 l1 = some r) :
  Calls Try.prog 66 #[.slice A0 l0.length c0, .slice A1 l1.length c1] w fun e w' => ∃ v0_ : Value, e = .returned (v0_) ∧ Kd.R (Kd.int .u32) 89 w' w.heap.size (fun _ => True) v0_ r ∧ Below w.heap.size w w' := by
 have HR0 := Aside0.mk hr0
 have HC0 := Aside0.mk hc0
 clear hr0 hc0
 have HR1 := Aside0.mk hr1
 have HC1 := Aside0.mk hc1
 clear hr1 hc1
 have HB := Aside0.mk (Below.refl w.heap.size w)
 have H : (if 0 ≤ (wrap64 ((l0.length : Int) + (l1.length : Int))) then (if (wrap64 ((l0.length : Int) + (l1.length : Int)) : Int).toNat ≤ 70368744177664 then (nat_Mul.l0 k l1 (List.replicate (wrap64 ((l0.length : Int) + (l1.length : Int)) : Int).toNat 0) l0 (l0.length : Int) 0) else (none)) else (none)) = some r := h
 clear h
 obtain ⟨ji3, hji3⟩ : ∃ j_ : Int, (wrap64 ((l0.length : Int) + (l1.length : Int))) = j_ := ⟨_, rfl⟩
 replace H : (if 0 ≤ (ji3) then (if (ji3 : Int).toNat ≤ 70368744177664 then (nat_Mul.l0 k l1 (List.replicate (ji3 : Int).toNat 0) l0 (l0.length : Int) 0) else (none)) else (none)) = some r := by first | (rw [hji3] at H; exact H) | (simp only [hji3] at H ⊢; exact H)
 have hji3w : (IntKind.i64.wrap ((l0.length : Int) + (l1.length : Int))) = ji3 := (i64_w _).trans hji3
 by_cases c4 : 0 ≤ (ji3)
 ·rw [if_pos c4] at H
  have c4b0 := eq_true c4
  have c4b1 : decide (0 ≤ (ji3)) = true := decide_eq_true c4
  clear c4
  by_cases c5 : (ji3 : Int).toNat ≤ 70368744177664
  ·rw [if_pos c5] at H
   have c5b0 := eq_true c5
   have c5b1 : decide ((ji3 : Int).toNat ≤ 70368744177664) = true := decide_eq_true c5
   clear c5
   obtain ⟨y238, hy238⟩ : ∃ y_ : List Int, y_ = (List.replicate (ji3 : Int).toNat 0) := ⟨_, rfl⟩
   replace H : (nat_Mul.l0 k l1 y238 l0 (l0.length : Int) 0) = some r := by first | (rw [hy238]; with_reducible exact H) | (have H2_ := (Option.bind_some _ _).symm.trans H; rw [hy238]; with_reducible exact H2_) | (have H2_ := (Option.bind_some _ _).symm.trans H; with_reducible exact H2_) | with_reducible exact H | (rw [hy238]; exact H) | exact H
   have Ny238 := Aside0.mk hy238
   clear hy238
   have H' := Aside0.mk H
   clear H
   go_enter Try.func66, Try.ntmps66
   go_wp2_with (first | ((with_reducible refine gate_dst (N := 16) rfl ?_); refine Kd.R_make (Kd.int .u32) _ 89 rfl (N := 16) rfl 23 _ _ rfl ji3 rfl rfl Try.underlying23 (.int .u32 0) 4 info89 rfl (by decide) (by omega) 0 (ok := fun _ => True) (okp := fun _ => True) rfl (fun _ hk => hk) trivial (of_decide_eq_true (by first | (with_reducible assumption) | assumption)) (Nat.le_trans (Nat.mul_le_mul_right _ (of_decide_eq_true (by first | (with_reducible assumption) | assumption) : ji3.toNat ≤ 70368744177664)) (by omega)) (Below.refl _ _) (Nat.le_refl _) ?_; intro v239 w6 ho7 hb hg_ hnew_; clear hg_ hnew_; (first | rw [← Ny238.out] at ho7 | (simp only [Int.reduceToNat] at ho7; rw [← Ny238.out] at ho7)); have HO240 := Aside0.mk (Kd.R_lower ho7 (below_size (by repeat (first | (with_reducible first | exact HB.out | apply below_alloc | apply pw_below_drewN | apply below_drew1) | exact HB.out)))); replace HB := Aside0.mk (below_step (by repeat (first | (with_reducible first | exact HB.out | apply below_alloc | apply pw_below_drewN | apply below_drew1) | exact HB.out)) hb); clear hb ho7))
   go_loopg [19] k (fun kq v19 w' => ∃ (x5_1 : List Int) (x19_1 : Int), v19 = .int .i64 x19_1 ∧ Aside0 (nat_Mul.l0 kq l1 x5_1 l0 (l0.length : Int) x19_1 = some r) ∧ Aside0 (kq ≤ k) ∧ Aside0 (Kd.R (Kd.int .u32) 89 w' w.heap.size (fun _ => True) v239 x5_1) ∧ Aside0 (Below w.heap.size w w'))
   case atStart => exact ⟨(y238), (0), (by first | rfl | (simp; done) | (simp [*]; done)), H', ⟨Nat.le_refl _⟩, ⟨by (with_reducible repeat (first | apply Kd.R_alloc | apply Kd.R_drewN | apply Kd.R_drew)); exact HO240.out⟩, ⟨by repeat (first | (with_reducible first | exact HB.out | apply below_alloc | apply pw_below_drewN | apply below_drew1) | exact HB.out)⟩⟩
   case round =>
    clear H'
    try clear c1
    try clear p2
    try clear c4
    try clear c4b0
    try clear c4b1
    try clear c5
    try clear c5b0
    try clear c5b1
    try clear c6
    try clear p6
    obtain ⟨x5_1, x19_1, rfl, HA, HK1, HO_5, HB⟩ := hrel
    cases gk with
    | zero => exact absurd HA.out (by simp [nat_Mul.l0])
    | succ k1 =>
     have H := HA.out
     clear HA
     simp only [nat_Mul.l0] at H
     by_cases c8 : x19_1 < (l0.length : Int)
     ·rw [if_pos c8] at H
      have c8b0 : decide (x19_1 < (l0.length : Int)) = true := decide_eq_true c8
      clear c8
      by_cases c9 : 0 ≤ x19_1
      ·rw [if_pos c9] at H
       have c9b0 : decide (0 ≤ x19_1) = true := decide_eq_true c9
       clear c9
       by_cases c10 : x19_1 < (l0.length : Int)
       ·rw [if_pos c10] at H
        have c10b0 : decide (x19_1 < (l0.length : Int)) = true := decide_eq_true c10
        clear c10
        have H' := Aside0.mk H
        clear H
        have p244 : 0 ≤ (x19_1 : Int) := of_decide_eq_true (by first | (with_reducible assumption) | assumption)
        have q244 : x19_1 < (l0.length : Int) := of_decide_eq_true (by first | (with_reducible assumption) | assumption)
        obtain ⟨ad244, e244, hx244_0⟩ := Kd.at_int HR0.out x19_1 p244 q244
        cases e244
        replace hx244_0 := (HB.out.cell (World.block_lt_of_cell? w _ hx244_0)).trans hx244_0
        replace p244 := eq_true p244
        replace q244 := eq_true q244
        go_wp2
        go_loopg [8, 26] k1 (fun kq v8 v26 w' => ∃ (x5_2 : List Int) (x8_2 : Int) (x26_2 : Int), v8 = .int .u64 x8_2 ∧ v26 = .int .i64 x26_2 ∧ Aside0 (nat_Mul.l1 kq l1 x5_2 x19_1 (rd l0 x19_1) x8_2 l0 (l0.length : Int) x19_1 l1 (l1.length : Int) x26_2 = some r) ∧ Aside0 (kq ≤ k1) ∧ Aside0 (Kd.R (Kd.int .u32) 89 w' w.heap.size (fun _ => True) v239 x5_2) ∧ Aside0 (Below w.heap.size w w'))
        case atStart => exact ⟨(x5_1), (0), (0), (by first | rfl | (simp; done) | (simp [*]; done)), (by first | rfl | (simp; done) | (simp [*]; done)), H', ⟨Nat.le_refl _⟩, ⟨by (with_reducible repeat (first | apply Kd.R_alloc | apply Kd.R_drewN | apply Kd.R_drew)); exact HO_5.out⟩, ⟨by repeat (first | (with_reducible first | exact HB.out | apply below_alloc | apply pw_below_drewN | apply below_drew1) | exact HB.out)⟩⟩
        case round =>
         clear H'
         try clear c1
         try clear p2
         try clear q2
         try clear hx2
         try clear c4
         try clear c4b0
         try clear c4b1
         try clear c5
         try clear c5b0
         try clear c5b1
         try clear c6
         try clear p6
         try clear c8
         try clear c8b0
         try clear c9
         try clear c9b0
         try clear c10
         try clear c10b0
         try clear hx244_0
         try clear p2
         try clear p244
         try clear p6
         try clear q244
         obtain ⟨x5_2, x8_2, x26_2, rfl, rfl, HA, HK2, HO_5, HB⟩ := hrel
         cases gk with
         | zero => exact absurd HA.out (by simp [nat_Mul.l1])
         | succ k2 =>
          have H := HA.out
          clear HA
          simp only [nat_Mul.l1] at H
          by_cases c11 : x26_2 < (l1.length : Int)
          ·rw [if_pos c11] at H
           have c11b0 : decide (x26_2 < (l1.length : Int)) = true := decide_eq_true c11
           clear c11
           by_cases c12 : 0 ≤ x26_2
           ·rw [if_pos c12] at H
            have c12b0 : decide (0 ≤ x26_2) = true := decide_eq_true c12
            clear c12
            by_cases c13 : x26_2 < (l1.length : Int)
            ·rw [if_pos c13] at H
             have c13b0 : decide (x26_2 < (l1.length : Int)) = true := decide_eq_true c13
             clear c13
             obtain ⟨ji14, hji14⟩ : ∃ j_ : Int, (wrap64 (x19_1 + x26_2)) = j_ := ⟨_, rfl⟩
             replace H : (if 0 ≤ (ji14) then (if (ji14) < (x5_2.length : Int) then (nat_Mul.l1 k2 l1 (x5_2.set ((ji14) : Int).toNat ((IntKind.u64.wrap (x8_2 + (IntKind.u64.wrap ((IntKind.u64.wrap ((IntKind.u64.wrap ((rd l0 x19_1))) * (IntKind.u64.wrap (rd l1 x26_2)))) + (IntKind.u64.wrap (rd x5_2 (ji14))))))) % 4294967296)) x19_1 (rd l0 x19_1) ((IntKind.u64.wrap (x8_2 + (IntKind.u64.wrap ((IntKind.u64.wrap ((IntKind.u64.wrap ((rd l0 x19_1))) * (IntKind.u64.wrap (rd l1 x26_2)))) + (IntKind.u64.wrap (rd x5_2 (ji14))))))) / 4294967296) l0 (l0.length : Int) x19_1 l1 (l1.length : Int) (wrap64 (x26_2 + 1))) else (none)) else (none)) = some r := by first | (rw [hji14] at H; exact H) | (simp only [hji14] at H ⊢; exact H)
             have hji14w : (IntKind.i64.wrap (x19_1 + x26_2)) = ji14 := (i64_w _).trans hji14
             by_cases c15 : 0 ≤ (ji14)
             ·rw [if_pos c15] at H
              have c15b0 : decide (0 ≤ (ji14)) = true := decide_eq_true c15
              clear c15
              by_cases c16 : (ji14) < (x5_2.length : Int)
              ·rw [if_pos c16] at H
               have c16b0 : decide ((ji14) < (x5_2.length : Int)) = true := decide_eq_true c16
               clear c16
               obtain ⟨y247, hy247⟩ : ∃ y_ : List Int, y_ = (x5_2.set ((ji14) : Int).toNat ((IntKind.u64.wrap (x8_2 + (IntKind.u64.wrap ((IntKind.u64.wrap ((IntKind.u64.wrap ((rd l0 x19_1))) * (IntKind.u64.wrap (rd l1 x26_2)))) + (IntKind.u64.wrap (rd x5_2 (ji14))))))) % 4294967296)) := ⟨_, rfl⟩
               replace H : (nat_Mul.l1 k2 l1 y247 x19_1 (rd l0 x19_1) ((IntKind.u64.wrap (x8_2 + (IntKind.u64.wrap ((IntKind.u64.wrap ((IntKind.u64.wrap ((rd l0 x19_1))) * (IntKind.u64.wrap (rd l1 x26_2)))) + (IntKind.u64.wrap (rd x5_2 (ji14))))))) / 4294967296) l0 (l0.length : Int) x19_1 l1 (l1.length : Int) (wrap64 (x26_2 + 1))) = some r := by first | (rw [hy247]; with_reducible exact H) | (have H2_ := (Option.bind_some _ _).symm.trans H; rw [hy247]; with_reducible exact H2_) | (have H2_ := (Option.bind_some _ _).symm.trans H; with_reducible exact H2_) | with_reducible exact H | (rw [hy247]; exact H) | exact H
               have Ny247 := Aside0.mk hy247
               clear hy247
               have H' := Aside0.mk H
               clear H
               have p245 : 0 ≤ (x26_2 : Int) := of_decide_eq_true (by first | (with_reducible assumption) | assumption)
               have q245 : x26_2 < (l1.length : Int) := of_decide_eq_true (by first | (with_reducible assumption) | assumption)
               obtain ⟨ad245, e245, hx245_0⟩ := Kd.at_int HR1.out x26_2 p245 q245
               cases e245
               replace hx245_0 := (HB.out.cell (World.block_lt_of_cell? w _ hx245_0)).trans hx245_0
               replace p245 := eq_true p245
               replace q245 := eq_true q245
               obtain ⟨Ao18, co18, eo18⟩ := Kd.R_slice HO_5.out
               subst eo18
               have p246 : 0 ≤ ((ji14) : Int) := of_decide_eq_true (by first | (with_reducible assumption) | assumption)
               have q246 : (ji14) < (x5_2.length : Int) := of_decide_eq_true (by first | (with_reducible assumption) | assumption)
               obtain ⟨ad246, e246, hx246_0⟩ := Kd.at_int (Kd.R_reads' HO_5.out).2.2 (ji14) p246 q246
               cases e246
               replace p246 := eq_true p246
               replace q246 := eq_true q246
               have p17 : 0 ≤ ((ji14) : Int) := of_decide_eq_true (by first | (with_reducible assumption) | assumption)
               have q17 : ((ji14) : Int) < ((x5_2.length : Int) : Int) := of_decide_eq_true (by first | (with_reducible assumption) | assumption)
               obtain ⟨go17, co17, eo17, gb17, gl17, cl17, HG17⟩ := Kd.R_form HO_5.out (by omega)
               (first | cases eo17 | (injection eo17 with ea_ en_ ec_; (first | subst ea_ | (injection ea_ with ea_; subst ea_)); subst ec_; clear en_))
               have GB17 := Aside0.mk gb17
               have GG17 := Aside0.mk HG17
               clear gb17 gl17 HG17
               (first | simp only [add_plain] at hx246_0 | skip)
               obtain ⟨hx17_0, hf17_0⟩ := Kd.R_celln 0 HO_5.out ((ji14) : Int) p17 q17
               replace p17 := eq_true p17
               replace q17 := eq_true q17
               have HP19 := Kd.R_putg HO_5.out ((ji14) : Int) ((IntKind.u64.wrap (x8_2 + (IntKind.u64.wrap ((IntKind.u64.wrap ((IntKind.u64.wrap ((rd l0 x19_1))) * (IntKind.u64.wrap (rd l1 x26_2)))) + (IntKind.u64.wrap (rd x5_2 (ji14))))))) % 4294967296)
               go_wp2_with (first | ((with_reducible refine gate_store (t := 89) (p := 52) rfl ?_); refine store_event (t := 89) (p := 52) (v := ?vo_w20) (w1 := (wr.setCell ⟨go17, ((ji14) : Int).toNat, none⟩ (.int .u32 ((IntKind.u64.wrap (x8_2 + (IntKind.u64.wrap ((IntKind.u64.wrap ((IntKind.u64.wrap ((rd l0 x19_1))) * (IntKind.u64.wrap (rd l1 x26_2)))) + (IntKind.u64.wrap (rd x5_2 (ji14))))))) % 4294967296)))) ?hg ?ho ?hn ?hr ?_; (case ho => rfl); (case hg => rfl); (case hn => rfl); (case hr => first | (go_simp; done) | (go_simp; rfl)); intro w20 hw; have hg : wr.grownBy w20 (some go17) := (by rw [hw]; exact HP19.2); have hp_ : Kd.R (Kd.int .u32) 89 w20 w.heap.size (fun _ => True) (.slice (some ⟨go17, 0, none⟩) x5_2.length co18) y247 := (by rw [hw, Ny247.out]; exact HP19.1); clear HP19; replace HO_5 := Aside0.mk (hp_); replace HB := Aside0.mk ((by rw [hw]; exact below_set (HB.out) GB17.out : Below w.heap.size w w20)); clear hg hw hp_))
               go_roundg k2
               case measure => have := HK1.out; have := HK2.out; omega
               case rel => exact ⟨(y247), ((IntKind.u64.wrap (x8_2 + (IntKind.u64.wrap ((IntKind.u64.wrap ((IntKind.u64.wrap ((rd l0 x19_1))) * (IntKind.u64.wrap (rd l1 x26_2)))) + (IntKind.u64.wrap (rd x5_2 (ji14))))))) / 4294967296), (wrap64 (x26_2 + 1)), (by first | rfl | (simp; done) | (simp only [← hji14] <;> (first | rfl | simp)) | (simp [*]; done)), (by first | rfl | (simp; done) | (simp [*]; done)), H', ⟨by have := HK1.out; have := HK2.out; omega⟩, ⟨by (with_reducible repeat (first | apply Kd.R_alloc | apply Kd.R_drewN | apply Kd.R_drew)); exact HO_5.out⟩, ⟨by repeat (first | (with_reducible first | exact HB.out | apply below_alloc | apply pw_below_drewN | apply below_drew1) | exact HB.out)⟩⟩
              ·rw [if_neg c16] at H
               exact absurd H (by simp)
             ·rw [if_neg c15] at H
              exact absurd H (by simp)
            ·rw [if_neg c13] at H
             exact absurd H (by simp)
           ·rw [if_neg c12] at H
            exact absurd H (by simp)
          ·rw [if_neg c11] at H
           have c11b0 : decide (x26_2 < (l1.length : Int)) = false := decide_eq_false c11
           clear c11
           obtain ⟨ji21, hji21⟩ : ∃ j_ : Int, (wrap64 (x19_1 + (l1.length : Int))) = j_ := ⟨_, rfl⟩
           replace H : (if 0 ≤ (ji21) then (if (ji21) < (x5_2.length : Int) then (nat_Mul.l0 k2 l1 (x5_2.set ((ji21) : Int).toNat ((x8_2) % 4294967296)) l0 (l0.length : Int) (wrap64 (x19_1 + 1))) else (none)) else (none)) = some r := by first | (rw [hji21] at H; exact H) | (simp only [hji21] at H ⊢; exact H)
           have hji21w : (IntKind.i64.wrap (x19_1 + (l1.length : Int))) = ji21 := (i64_w _).trans hji21
           by_cases c22 : 0 ≤ (ji21)
           ·rw [if_pos c22] at H
            have c22b0 : decide (0 ≤ (ji21)) = true := decide_eq_true c22
            clear c22
            by_cases c23 : (ji21) < (x5_2.length : Int)
            ·rw [if_pos c23] at H
             have c23b0 : decide ((ji21) < (x5_2.length : Int)) = true := decide_eq_true c23
             clear c23
             obtain ⟨y248, hy248⟩ : ∃ y_ : List Int, y_ = (x5_2.set ((ji21) : Int).toNat ((x8_2) % 4294967296)) := ⟨_, rfl⟩
             replace H : (nat_Mul.l0 k2 l1 y248 l0 (l0.length : Int) (wrap64 (x19_1 + 1))) = some r := by first | (rw [hy248]; with_reducible exact H) | (have H2_ := (Option.bind_some _ _).symm.trans H; rw [hy248]; with_reducible exact H2_) | (have H2_ := (Option.bind_some _ _).symm.trans H; with_reducible exact H2_) | with_reducible exact H | (rw [hy248]; exact H) | exact H
             have Ny248 := Aside0.mk hy248
             clear hy248
             have H' := Aside0.mk H
             clear H
             have p24 : 0 ≤ ((ji21) : Int) := of_decide_eq_true (by first | (with_reducible assumption) | assumption)
             have q24 : ((ji21) : Int) < ((x5_2.length : Int) : Int) := of_decide_eq_true (by first | (with_reducible assumption) | assumption)
             obtain ⟨go24, co24, eo24, gb24, gl24, cl24, HG24⟩ := Kd.R_form HO_5.out (by omega)
             (first | cases eo24 | (injection eo24 with ea_ en_ ec_; (first | subst ea_ | (injection ea_ with ea_; subst ea_)); subst ec_; clear en_))
             have GB24 := Aside0.mk gb24
             have GG24 := Aside0.mk HG24
             clear gb24 gl24 HG24
             obtain ⟨hx24_0, hf24_0⟩ := Kd.R_celln 0 HO_5.out ((ji21) : Int) p24 q24
             replace p24 := eq_true p24
             replace q24 := eq_true q24
             have HP25 := Kd.R_putg HO_5.out ((ji21) : Int) ((x8_2) % 4294967296)
             go_wp2_with (first | ((with_reducible refine gate_store (t := 89) (p := 63) rfl ?_); refine store_event (t := 89) (p := 63) (v := ?vo_w26) (w1 := (wr.setCell ⟨go24, ((ji21) : Int).toNat, none⟩ (.int .u32 ((x8_2) % 4294967296)))) ?hg ?ho ?hn ?hr ?_; (case ho => rfl); (case hg => rfl); (case hn => rfl); (case hr => first | (go_simp; done) | (go_simp; rfl)); intro w26 hw; have hg : wr.grownBy w26 (some go24) := (by rw [hw]; exact HP25.2); have hp_ : Kd.R (Kd.int .u32) 89 w26 w.heap.size (fun _ => True) (.slice (some ⟨go24, 0, none⟩) x5_2.length co24) y248 := (by rw [hw, Ny248.out]; exact HP25.1); clear HP25; replace HO_5 := Aside0.mk (hp_); replace HB := Aside0.mk ((by rw [hw]; exact below_set (HB.out) GB24.out : Below w.heap.size w w26)); clear hg hw hp_))
             go_roundg k2
             case measure => have := HK1.out; have := HK2.out; omega
             case rel => exact ⟨(y248), (wrap64 (x19_1 + 1)), (by first | rfl | (simp; done) | (simp [*]; done)), H', ⟨by have := HK1.out; have := HK2.out; omega⟩, ⟨by (with_reducible repeat (first | apply Kd.R_alloc | apply Kd.R_drewN | apply Kd.R_drew)); exact HO_5.out⟩, ⟨by repeat (first | (with_reducible first | exact HB.out | apply below_alloc | apply pw_below_drewN | apply below_drew1) | exact HB.out)⟩⟩
            ·rw [if_neg c23] at H
             exact absurd H (by simp)
           ·rw [if_neg c22] at H
            exact absurd H (by simp)
       ·rw [if_neg c10] at H
        exact absurd H (by simp)
      ·rw [if_neg c9] at H
       exact absurd H (by simp)
     ·rw [if_neg c8] at H
      have c8b0 : decide (x19_1 < (l0.length : Int)) = false := decide_eq_false c8
      clear c8
      replace H := Option.bind_eq_some_iff.mp H
      obtain ⟨t241, A270, H⟩ := H
      replace H : (some t241) = some r := H
      have A27 := Aside0.mk A270
      clear A270
      obtain rfl := Option.some.inj H
      obtain ⟨Ao28, co28, eo28⟩ := Kd.R_slice HO_5.out
      subst eo28
      go_wp2_with (first | ((with_reducible refine gate_callee (f := 71) rfl ?_); refine Short.goesS_ (some 66) Try.func71 #[.slice Ao28 x5_1.length co28] ?_; (with_reducible refine (nat_trim.calls k1 _ _ x5_1 t241 _ ((Kd.R_reads' HO_5.out).2.2) ((Kd.R_reads' HO_5.out).2.1) A27.out).mono ?_); rintro e w29 ⟨v242, rfl, ho0, hb⟩; refine ⟨_, rfl, ?_⟩; have HO243 := Aside0.mk (Kd.R_lower (Kd.R_new' ho0 (Kd.R_lt HO_5.out)) (below_size (by repeat (first | (with_reducible first | exact HB.out | apply below_alloc | apply pw_below_drewN | apply below_drew1) | exact HB.out)))); replace HO_5 := Aside0.mk (Kd.R_elder' HO_5.out (Kd.R_base ho0) hb); replace HB := Aside0.mk (below_step (by repeat (first | (with_reducible first | exact HB.out | apply below_alloc | apply pw_below_drewN | apply below_drew1) | exact HB.out)) hb); (try clear hb); (try clear ho0)))
      go_ret
      exact ⟨_, by first | rfl | (simp [errW_none, errW_some] <;> rfl) | (simp only [← hji3]; first | rfl | (simp [errW_none, errW_some] <;> rfl)) | (simp [*, errW_none, errW_some] <;> rfl), by (with_reducible repeat (first | apply Kd.R_alloc | apply Kd.R_drewN | apply Kd.R_drew)); exact Kd.R_mono HO243.out (fun _ hk => trivial), by repeat (first | (with_reducible first | exact HB.out | apply below_alloc | apply pw_below_drewN | apply below_drew1) | exact HB.out)⟩
  ·rw [if_neg c5] at H
   exact absurd H (by simp)
 ·rw [if_neg c4] at H
  exact absurd H (by simp)

theorem nat_Mul.ev_in {a b : List Int} (ha : Num.Ws a) (hb : Num.Ws b) (hla : a.length < 1099511627776) (hlb : b.length < 1099511627776) {i p : Nat} (hi : i < a.length) (hp : p < 4294967296) (y : List Int) (R : List Int)
  (hend : ∀ x : List Int, x.length = a.length + b.length → Num.Ws x → ∀ c : Nat, c < 4294967296 → (∀ t, i + b.length ≤ t → x.getD t 0 = y.getD t 0) → Num.nv x + 2 ^ (32 * (i + b.length)) * c = Num.nv y + 2 ^ (32 * i) * (p * Num.nv b) →
   Ev (fun k => nat_Mul.l0 k b (x.set (i + b.length) ((c : Int) % 4294967296)) a (a.length : Int) ((i + 1 : Nat) : Int)) R) (d : Nat) :
  ∀ (j : Nat) (x : List Int) (c : Nat), j + d = b.length → x.length = a.length + b.length → Num.Ws x → c < 4294967296 → (∀ t, i + j ≤ t → x.getD t 0 = y.getD t 0) → Num.nv x + 2 ^ (32 * (i + j)) * c = Num.nv y + 2 ^ (32 * i) * (p * Num.nv (b.take j)) →
   Ev (fun k => nat_Mul.l1 k b x (i : Int) (p : Int) (c : Int) a (a.length : Int) (i : Int) b (b.length : Int) (j : Int)) R := by
 induction d with
 | zero =>
  intro j x c hj hx hW hc hs hv
  obtain rfl : j = b.length := by omega
  rw [List.take_length] at hv
  have c1 : ¬ (b.length : Int) < (b.length : Int) := by omega
  have c2 : 0 ≤ ((i + b.length : Nat) : Int) := by omega
  have c3 : ((i + b.length : Nat) : Int) < (x.length : Int) := by omega
  have b1 : i + b.length < 9223372036854775808 := by omega
  have b2 : i + 1 < 9223372036854775808 := by omega
  refine Ev.step (f := fun k => nat_Mul.l0 k b (x.set (i + b.length) ((c : Int) % 4294967296)) a (a.length : Int) ((i + 1 : Nat) : Int)) (fun k => ?_) (hend x hx hW c hc hs hv)
  simp only [nat_Mul.l1, w64_add i b.length b1, w64_succ i b2]
  rw [if_neg c1, if_pos c2, if_pos c3, Int.toNat_natCast]
 | succ d ih =>
  intro j x c hj hx hW hc hs hv
  have hgb := hb.getD j
  have hgx := hW.getD (i + j)
  obtain ⟨q, hq⟩ : ∃ q : Nat, (q : Int) = b.getD j 0 := ⟨(b.getD j 0).toNat, by omega⟩
  obtain ⟨u, hu⟩ : ∃ u : Nat, (u : Int) = x.getD (i + j) 0 := ⟨(x.getD (i + j) 0).toNat, by omega⟩
  have hpq : p * q ≤ 4294967295 * 4294967295 := Nat.mul_le_mul (by omega) (by omega)
  have b0 : i + j < 9223372036854775808 := by omega
  have b1 : j + 1 < 9223372036854775808 := by omega
  have b2 : p < 18446744073709551616 := by omega
  have b3 : q < 18446744073709551616 := by omega
  have b4 : u < 18446744073709551616 := by omega
  have b5 : p * q < 18446744073709551616 := by omega
  have b6 : p * q + u < 18446744073709551616 := by omega
  have b7 : c + (p * q + u) < 18446744073709551616 := by omega
  have b8 : (c + (p * q + u)) / 4294967296 < 4294967296 := by omega
  have c1 : (j : Int) < (b.length : Int) := by omega
  have c2 : 0 ≤ (j : Int) := by omega
  have c4 : 0 ≤ ((i + j : Nat) : Int) := by omega
  have c5 : ((i + j : Nat) : Int) < (x.length : Int) := by omega
  refine Ev.step (f := fun k => nat_Mul.l1 k b (x.set (i + j) (((c + (p * q + u)) % 4294967296 : Nat) : Int)) (i : Int) (p : Int) (((c + (p * q + u)) / 4294967296 : Nat) : Int) a (a.length : Int) (i : Int) b (b.length : Int) ((j + 1 : Nat) : Int)) (fun k => ?_) ?_
  ·simp only [nat_Mul.l1, w64_add i j b0, w64_succ j b1]
   rw [if_pos c1, if_pos c2, if_pos c1, if_pos c4, if_pos c5, rd_at hq, rd_at hu, u64_nat p b2, u64_nat q b3, u64_nat u b4, u64_mul p q b5, u64_add (p * q) u b6, u64_add c (p * q + u) b7, mod32_nat, div32_nat, Int.toNat_natCast]
  ·refine ih (j + 1) _ _ (by omega) (by rw [List.length_set]; exact hx) (hW.set _ (by omega) (by omega)) b8 ?_ ?_
   ·intro t ht
    rw [← hs t (by omega), List.getD_eq_getElem?_getD, List.getElem?_set_ne (by omega), ← List.getD_eq_getElem?_getD]
   ·have v1 := Num.nv_set (l := x) (i := i + j) (by omega) (((c + (p * q + u)) % 4294967296 : Nat) : Int)
    rw [← hu, Int.toNat_natCast, Int.toNat_natCast] at v1
    have hsp := Num.split_mul (2 ^ (32 * (i + j))) (c + (p * q + u))
    have h2 : 2 ^ (32 * (i + j)) * (c + (p * q + u)) = 2 ^ (32 * (i + j)) * c + (2 ^ (32 * (i + j)) * (p * q) + 2 ^ (32 * (i + j)) * u) := by rw [Nat.mul_add (2 ^ (32 * (i + j))), Nat.mul_add (2 ^ (32 * (i + j)))]
    have h3 : 2 ^ (32 * i) * (p * Num.nv (b.take (j + 1))) = 2 ^ (32 * i) * (p * Num.nv (b.take j)) + 2 ^ (32 * (i + j)) * (p * q) := by
     have h4 : 2 ^ (32 * (i + j)) = 2 ^ (32 * i) * 2 ^ (32 * j) := by rw [← Nat.pow_add]; congr 1; omega
     rw [Num.nv_take_succ, ← hq, Int.toNat_natCast, h4, Nat.mul_add p, Nat.mul_add (2 ^ (32 * i)), Nat.mul_left_comm p, Nat.mul_assoc]
    rw [h3, show i + (j + 1) = i + j + 1 from rfl, Num.pow_succ32]
    omega
theorem nat_Mul.ev_out {a b : List Int} (ha : Num.Ws a) (hb : Num.Ws b) (hla : a.length < 1099511627776) (hlb : b.length < 1099511627776) (d : Nat) : ∀ (i : Nat) (x : List Int), i + d = a.length → x.length = a.length + b.length → Num.Ws x →
  Num.nv x = Num.nv (a.take i) * Num.nv b → Ev (fun k => nat_Mul.l0 k b x a (a.length : Int) (i : Int)) (Num.nd (Num.nv a * Num.nv b)) := by
 induction d with
 | zero =>
  intro i x hi hx hW hv
  obtain rfl : i = a.length := by omega
  rw [List.take_length] at hv
  have c1 : ¬ (a.length : Int) < (a.length : Int) := by omega
  refine Ev.step (f := fun k => (nat_trim.f k x).bind fun t => some t) (fun k => ?_) ?_
  ·simp only [nat_Mul.l0]
   rw [if_neg c1]
  ·rw [← hv]
   exact Ev.bind (nat_trim.ev hW (by omega)) (Ev.now _)
 | succ d ih =>
  intro i x hi hx hW hv
  have hga := ha.getD i
  obtain ⟨p, hp⟩ : ∃ p : Nat, (p : Int) = a.getD i 0 := ⟨(a.getD i 0).toNat, by omega⟩
  have c1 : (i : Int) < (a.length : Int) := by omega
  have c2 : 0 ≤ (i : Int) := by omega
  have htk := Num.nv_take_lt ha i (by omega)
  have hbl := Num.nv_lt hb
  refine Ev.step (f := fun k => nat_Mul.l1 k b x (i : Int) (p : Int) 0 a (a.length : Int) (i : Int) b (b.length : Int) 0) (fun k => ?_) ?_
  ·simp only [nat_Mul.l0]
   rw [if_pos c1, if_pos c2, if_pos c1, rd_at hp]
  ·refine nat_Mul.ev_in ha hb hla hlb (by omega) (by omega) x _ ?_ b.length 0 x 0 (by omega) hx hW (by omega) (fun t _ => rfl) (by simp [Num.nv])
   intro x' hx' hW' c hc hs hv'
   have e : (c : Int) % 4294967296 = (c : Int) := by omega
   rw [e]
   -- the word at i + b.length was a nought
   have hxlt : Num.nv x < 2 ^ (32 * (i + b.length)) * 1 := by
    rw [hv, Nat.mul_one, show 32 * (i + b.length) = 32 * i + 32 * b.length from by omega, Nat.pow_add]
    exact Nat.mul_lt_mul'' htk hbl
   have h0 := (Num.nv_top (l := x) (j := i + b.length) (R := 1) (by omega) (by omega) hxlt).1
   have hz : x'.getD (i + b.length) 0 = x.getD (i + b.length) 0 := hs _ (Nat.le_refl _)
   have v1 := Num.nv_set (l := x') (i := i + b.length) (by omega) (c : Int)
   rw [hz, show (x.getD (i + b.length) 0).toNat = 0 from by omega, Nat.mul_zero, Nat.add_zero, Int.toNat_natCast] at v1
   refine ih (i + 1) _ (by omega) (by rw [List.length_set]; exact hx') (hW'.set _ (by omega) (by omega)) ?_
   rw [v1, hv', hv, Num.nv_take_succ, ← hp, Int.toNat_natCast, Nat.add_mul, Nat.mul_assoc (2 ^ (32 * i))]
theorem nat_Mul.ev {a b : List Int} (ha : Num.okw a = true) (hb : Num.okw b = true) : Ev (fun k => nat_Mul.f k a b) (Num.nd (Num.nv a * Num.nv b)) := by
 obtain ⟨la, wa⟩ := (Num.okw_iff a).1 ha
 obtain ⟨lb, wb⟩ := (Num.okw_iff b).1 hb
 have h := nat_Mul.ev_out wa wb la lb a.length 0 (List.replicate (a.length + b.length) 0) (by omega) (by simp) (Num.Ws.replicate _) (by simp [Num.nv, Num.nv_replicate])
 have b1 : a.length + b.length < 9223372036854775808 := by omega
 have c1 : 0 ≤ ((a.length + b.length : Nat) : Int) := by omega
 have c2 : a.length + b.length ≤ 70368744177664 := by omega
 refine Ev.congr (fun k => ?_) h
 unfold nat_Mul.f
 rw [w64_add _ _ b1, if_pos c1, Int.toNat_natCast, if_pos c2]
 rfl
/-! ### whole_Mul: function 67 -/
def whole_Mul.f (k : Nat) (a0_0 : Bool) (l0_1 : List Int) (a1_0 : Bool) (l1_1 : List Int) : Option (Bool × List Int) := (whole_Sign.f k a0_0 l0_1).bind fun t252 => ((whole_Sign.f k a1_0 l1_1).bind fun t253 => ((nat_Mul.f k l0_1 l1_1).bind fun t254 => ((whole_Make.f k (decide ((wrap64 (t252 * t253)) < 0)) t254).bind fun bt257 => (some (bt257.1, bt257.2)))))
def whole_Mul.T1 : Bool × List (List Nat × List Nat) := (true, [([], []), ([0], [0]), ([], []), ([2, 1], [2]), ([1, 3], [1, 3]), ([4], [4]), ([], []), ([6], [6]), ([], []), ([8], [8]), ([7, 9, 3], [7, 9]), ([5, 10, 10], [5, 10]), ([11, 11, 0, 1, 2, 3, 4, 5, 6, 7, 8, 9, 10, 11], [11])])
def whole_Mul.B1 : List Nat := [0, 1, 0, 7, 15, 31, 0, 64, 0, 256, 975, 2047, 4095]
theorem whole_Mul.tab1 : rtab .any (opsOf Try.f67 1) = whole_Mul.T1 := by kernel_rfl
theorem whole_Mul.bits1 : waitsOk whole_Mul.T1.2 whole_Mul.B1 = true := by kernel_rfl
set_option maxHeartbeats 8000000 in
set_option maxRecDepth 100000 in
theorem whole_Mul.calls (k : Nat) (a0_0 : Bool) (A0_1 : Option Addr) (c0_1 : Nat) (l0_1 : List Int) (a1_0 : Bool) (A1_1 : Option Addr) (c1_1 : Nat) (l1_1 : List Int) (r1 : Bool) (r2 : List Int) (w : World) (hr0_1 : Kd.C (Kd.int .u32) w A0_1 l0_1.length l0_1) (hc0_1 : l0_1.length ≤ c0_1) (hr1_1 : Kd.C (Kd.int .u32) w A1_1 l1_1.length l1_1) (hc1_1 : l1_1.length ≤ c1_1) (h : whole_Mul.f k a0_0 l0_1 a1_0 l1_1 = some (r1, r2)) :
  Calls Try.prog 67 #[.agg #[.bool a0_0, .slice A0_1 l0_1.length c0_1], .agg #[.bool a1_0, .slice A1_1 l1_1.length c1_1]] w fun e w' => ∃ v1_ : Value, e = .returned (.agg #[.bool r1, v1_]) ∧ Kd.R (Kd.int .u32) 89 w' w.heap.size (fun _ => True) v1_ r2 ∧ Below w.heap.size w w' := by
 have hu25 := Try.underlying25
 have HR0_1 := Aside0.mk hr0_1
 have HC0_1 := Aside0.mk hc0_1
 clear hr0_1 hc0_1
 have HR1_1 := Aside0.mk hr1_1
 have HC1_1 := Aside0.mk hc1_1
 clear hr1_1 hc1_1
 have HB := Aside0.mk (Below.refl w.heap.size w)
 have H : ((whole_Sign.f k a0_0 l0_1).bind fun t252 => ((whole_Sign.f k a1_0 l1_1).bind fun t253 => ((nat_Mul.f k l0_1 l1_1).bind fun t254 => ((whole_Make.f k (decide ((wrap64 (t252 * t253)) < 0)) t254).bind fun bt257 => (some (bt257.1, bt257.2)))))) = some (r1, r2) := h
 clear h
 replace H := Option.bind_eq_some_iff.mp H
 obtain ⟨t252, A30, H⟩ := H
 try dsimp only at H
 have A3 := Aside0.mk A30
 clear A30
 replace H := Option.bind_eq_some_iff.mp H
 obtain ⟨t253, A40, H⟩ := H
 try dsimp only at H
 have A4 := Aside0.mk A40
 clear A40
 replace H := Option.bind_eq_some_iff.mp H
 obtain ⟨t254, A50, H⟩ := H
 try dsimp only at H
 have A5 := Aside0.mk A50
 clear A50
 replace H := Option.bind_eq_some_iff.mp H
 obtain ⟨⟨t257, t258⟩, A60, H⟩ := H
 replace H : (some (t257, t258)) = some (r1, r2) := H
 have A6 := Aside0.mk A60
 clear A60
 simp only [Option.some.injEq, Prod.mk.injEq] at H
 obtain ⟨rfl, rfl⟩ := H
 go_enter Try.func67, Try.ntmps67
 try go_wp2_with (first | ((with_reducible refine gate_dst (N := 2) rfl ?_); refine Short.boxS_ (N := 2) (cs := #[.bool a0_0, .slice A0_1 l0_1.length c0_1]) (t := 25) ?_; intro gb249 hg w7 hbox hb; have BK249 := Aside0.mk (hbox); have GW249 := Aside0.mk ((by rw [hg]; exact (below_size (by repeat (first | (with_reducible first | exact HB.out | apply below_alloc | apply pw_below_drewN | apply below_drew1) | exact HB.out))) : w.heap.size ≤ gb249)); have GE249 := Aside0.mk ((by rw [hg]; exact (below_size (by repeat (first | (with_reducible first | exact HB.out | apply below_alloc | apply pw_below_drewN | apply below_drew1) | exact HB.out))) : w.heap.size ≤ gb249)); replace HB := Aside0.mk (below_step (by repeat (first | (with_reducible first | exact HB.out | apply below_alloc | apply pw_below_drewN | apply below_drew1) | exact HB.out)) hb); clear hb hbox hg) | ((with_reducible refine gate_dst (N := 3) rfl ?_); refine Short.boxS_ (N := 3) (cs := #[.bool a1_0, .slice A1_1 l1_1.length c1_1]) (t := 25) ?_; intro gb250 hg w8 hbox hb; have BK250 := Aside0.mk (hbox); have GW250 := Aside0.mk ((by rw [hg]; exact (below_size HB.out) : w.heap.size ≤ gb250)); have GE250 := Aside0.mk ((by rw [hg]; exact (below_size HB.out) : w.heap.size ≤ gb250)); replace HB := Aside0.mk (below_step HB.out hb); have NB249_250 := Short.ltA_ hg BK249; have NB250_249 := Short.gtA_ hg BK249; replace BK249 := Aside0.mk (blk_below BK249.out hb); clear hb hbox hg) | ((with_reducible refine gate_dst (N := 4) rfl ?_); refine Short.boxS_ (N := 4) (cs := #[.bool false, .slice none 0 0]) (t := 25) ?_; intro gb251 hg w9 hbox hb; have BK251 := Aside0.mk (hbox); have GW251 := Aside0.mk ((by rw [hg]; exact (below_size HB.out) : w.heap.size ≤ gb251)); have GE251 := Aside0.mk ((by rw [hg]; exact (below_size HB.out) : w.heap.size ≤ gb251)); replace HB := Aside0.mk (below_step HB.out hb); have NB249_251 := Short.ltA_ hg BK249; have NB251_249 := Short.gtA_ hg BK249; replace BK249 := Aside0.mk (blk_below BK249.out hb); have NB250_251 := Short.ltA_ hg BK250; have NB251_250 := Short.gtA_ hg BK250; replace BK250 := Aside0.mk (blk_below BK250.out hb); clear hb hbox hg))
 replace BK249 := Aside0.mk (blk_drew BK249.out)
 replace BK250 := Aside0.mk (blk_drew BK250.out)
 replace BK251 := Aside0.mk (blk_drew BK251.out)
 replace HB := Aside0.mk (below_drew1 HB.out)
 refine start_ (n := 13) (S := fun w' => w'.cell? ⟨gb249, 0, none⟩ = some (.bool a0_0) ∧ w'.cell? ⟨gb249, 1, none⟩ = some (.slice A0_1 l0_1.length c0_1) ∧ w'.cell? ⟨gb250, 0, none⟩ = some (.bool a1_0) ∧ w'.cell? ⟨gb250, 1, none⟩ = some (.slice A1_1 l1_1.length c1_1)) (ds := []) #[false, false, false, false, false, false, false, false, false, false, false, false, false] (by kernel_rfl) rfl rfl ⟨(blk_cell BK249.out 0).trans rfl, (blk_cell BK249.out 1).trans rfl, (blk_cell BK250.out 0).trans rfl, (blk_cell BK250.out 1).trans rfl⟩ (fun hHeld => ?_); refine with_tabW whole_Mul.tab1 whole_Mul.bits1 (fun HT_ HW_ => ?_)
 generalize w9.drew = w10 at BK249 BK250 BK251 HB hHeld ⊢
 refine Short.pureS_ (i := 6) (N := some 11) #[false, false, false, false, false, false, true, false, false, false, false, false, false] (any_of HT_.out (by kernel_rfl)) ?_
 refine Short.pureS_ (i := 8) (N := some 13) #[false, false, false, false, false, false, true, false, true, false, false, false, false] (any_of HT_.out (by kernel_rfl)) ?_
 refine Short.takeS_ (i := 0) (N := some 5) #[true, false, false, false, false, false, true, false, true, false, false, false, false] (take_ofW HT_.out HW_.out (by kernel_rfl)) hHeld ?_
 refine Short.takeS_ (i := 2) (N := some 7) #[true, false, true, false, false, false, true, false, true, false, false, false, false] (take_ofW HT_.out HW_.out (by kernel_rfl)) hHeld ?_
 refine Short.takeS_ (i := 7) (N := some 12) #[true, false, true, false, false, false, true, true, true, false, false, false, false] (take_ofW HT_.out HW_.out (by kernel_rfl)) hHeld ?_
 refine Short.takeS_ (i := 9) (N := some 14) #[true, false, true, false, false, false, true, true, true, true, false, false, false] (take_ofW HT_.out HW_.out (by kernel_rfl)) hHeld ?_
 refine one_ (i := 1) (N := some 6) #[true, true, true, false, false, false, true, true, true, true, false, false, false] rfl rfl (one_of HT_.out (by kernel_rfl)) (by decide) (fun K hK => ?_)
 refine Short.goesD_ Try.func49 #[.agg #[.bool a0_0, .slice A0_1 l0_1.length c0_1]] ?_
 with_reducible refine (whole_Sign.calls k a0_0 _ _ l0_1 t252 _ (Kd.C_below HR0_1.out HB.out) HC0_1.out A3.out).mono ?_
 rintro e w11 ⟨rfl, hb⟩
 refine ⟨_, rfl, ?_⟩
 replace BK249 := Aside0.mk (blk_below BK249.out hb)
 replace BK250 := Aside0.mk (blk_below BK250.out hb)
 replace BK251 := Aside0.mk (blk_below BK251.out hb)
 replace HB := Aside0.mk (below_step HB.out hb)
 (try clear hb)
 refine hK.out _ _ ⟨(blk_cell BK249.out 0).trans rfl, (blk_cell BK249.out 1).trans rfl, (blk_cell BK250.out 0).trans rfl, (blk_cell BK250.out 1).trans rfl⟩ (fun hHeld => ?_)
 clear hK K
 refine Short.normS_ ?_
 refine one_ (i := 3) (N := some 8) #[true, true, true, true, false, false, true, true, true, true, false, false, false] rfl rfl (one_of HT_.out (by kernel_rfl)) (by decide) (fun K hK => ?_)
 refine Short.goesD_ Try.func49 #[.agg #[.bool a1_0, .slice A1_1 l1_1.length c1_1]] ?_
 with_reducible refine (whole_Sign.calls k a1_0 _ _ l1_1 t253 _ (Kd.C_below HR1_1.out HB.out) HC1_1.out A4.out).mono ?_
 rintro e w12 ⟨rfl, hb⟩
 refine ⟨_, rfl, ?_⟩
 replace BK249 := Aside0.mk (blk_below BK249.out hb)
 replace BK250 := Aside0.mk (blk_below BK250.out hb)
 replace BK251 := Aside0.mk (blk_below BK251.out hb)
 replace HB := Aside0.mk (below_step HB.out hb)
 (try clear hb)
 refine hK.out _ _ ⟨(blk_cell BK249.out 0).trans rfl, (blk_cell BK249.out 1).trans rfl, (blk_cell BK250.out 0).trans rfl, (blk_cell BK250.out 1).trans rfl⟩ (fun hHeld => ?_)
 clear hK K
 refine Short.normS_ ?_
 refine Short.pureS_ (i := 4) (N := some 9) #[true, true, true, true, true, false, true, true, true, true, false, false, false] (any_of HT_.out (by kernel_rfl)) ?_
 refine Short.pureS_ (i := 5) (N := some 10) #[true, true, true, true, true, true, true, true, true, true, false, false, false] (any_of HT_.out (by kernel_rfl)) ?_
 refine one_ (i := 10) (N := some 15) #[true, true, true, true, true, true, true, true, true, true, true, false, false] rfl rfl (one_of HT_.out (by kernel_rfl)) (by decide) (fun K hK => ?_)
 refine Short.goesD_ Try.func66 #[.slice A0_1 l0_1.length c0_1, .slice A1_1 l1_1.length c1_1] ?_
 with_reducible refine (nat_Mul.calls k _ _ l0_1 _ _ l1_1 t254 _ (Kd.C_below HR0_1.out HB.out) HC0_1.out (Kd.C_below HR1_1.out HB.out) HC1_1.out A5.out).mono ?_
 rintro e w13 ⟨v255, rfl, ho0, hb⟩
 refine ⟨_, rfl, ?_⟩
 have HO256 := Aside0.mk (Kd.R_lower ho0 (below_size HB.out))
 replace BK249 := Aside0.mk (blk_below BK249.out hb)
 replace BK250 := Aside0.mk (blk_below BK250.out hb)
 replace BK251 := Aside0.mk (blk_below BK251.out hb)
 replace HB := Aside0.mk (below_step HB.out hb)
 (try clear hb)
 (try clear ho0)
 obtain ⟨Ao14, co14, eo14⟩ := Kd.R_slice HO256.out
 (first | subst eo14 | (injection eo14 with f1_ f2_ f3_; have f4_ := f1_.symm; have f5_ := f3_.symm; clear f1_ f2_ f3_; subst f4_; subst f5_))
 refine hK.out _ _ ⟨(blk_cell BK249.out 0).trans rfl, (blk_cell BK249.out 1).trans rfl, (blk_cell BK250.out 0).trans rfl, (blk_cell BK250.out 1).trans rfl⟩ (fun hHeld => ?_)
 clear hK K
 refine Short.normS_ ?_
 refine one_ (i := 11) (N := some 16) #[true, true, true, true, true, true, true, true, true, true, true, true, false] rfl rfl (one_of HT_.out (by kernel_rfl)) (by decide) (fun K hK => ?_)
 refine Short.goesD_ Try.func45 #[.bool (decide ((wrap64 (t252 * t253)) < 0)), .slice Ao14 t254.length co14] ?_
 with_reducible refine (whole_Make.calls k (decide ((wrap64 (t252 * t253)) < 0)) _ _ t254 t257 t258 _ ((Kd.R_reads' HO256.out).2.2) ((Kd.R_reads' HO256.out).2.1) A6.out).mono ?_
 rintro e w15 ⟨v259, rfl, ho0, hb⟩
 refine ⟨_, rfl, ?_⟩
 have HO260 := Aside0.mk (Kd.R_lower (Kd.R_new' ho0 (Kd.R_lt HO256.out)) (below_size HB.out))
 replace HO256 := Aside0.mk (Kd.R_elder' HO256.out (Kd.R_base ho0) hb)
 replace BK249 := Aside0.mk (blk_below BK249.out hb)
 replace BK250 := Aside0.mk (blk_below BK250.out hb)
 replace BK251 := Aside0.mk (blk_below BK251.out hb)
 replace HB := Aside0.mk (below_step HB.out hb)
 (try clear hb)
 (try clear ho0)
 obtain ⟨Ao17, co17, eo17⟩ := Kd.R_slice HO260.out
 (first | subst eo17 | (injection eo17 with f1_ f2_ f3_; have f4_ := f1_.symm; have f5_ := f3_.symm; clear f1_ f2_ f3_; subst f4_; subst f5_))
 refine hK.out _ _ ⟨(blk_cell BK249.out 0).trans rfl, (blk_cell BK249.out 1).trans rfl, (blk_cell BK250.out 0).trans rfl, (blk_cell BK250.out 1).trans rfl⟩ (fun hHeld => ?_)
 clear hK K
 refine Short.normS_ ?_
 refine one_ (i := 12) (N := none) #[true, true, true, true, true, true, true, true, true, true, true, true, true] rfl rfl (one_of HT_.out (by kernel_rfl)) (by decide) (fun K hK => ?_)
 have hs16 : w15.cell? ⟨gb251, 0, none⟩ = some (.bool false) := (blk_cell BK251.out 0).trans rfl
 have hfs16 := blk_frozen BK251.out 0
 have hns16_0 := NB249_251.out
 have hns16_1 := NB250_251.out
 have hms16_0 := NB251_249.out
 have hms16_1 := NB251_250.out
 have hs18 : w15.cell? ⟨gb251, 1, none⟩ = some (.slice none 0 0) := (blk_cell BK251.out 1).trans rfl
 have hfs18 := blk_frozen BK251.out 1
 have hns18_0 := NB249_251.out
 have hns18_1 := NB250_251.out
 have hms18_0 := NB251_249.out
 have hms18_1 := NB251_250.out
 refine skip_ (w1 := ?_) (by rfl) rfl ?_ ?_
 rotate_left
 ·go_simp
  rfl
 refine hK.out _ _ ⟨((cell_far (p := ⟨gb251, _, none⟩) NB249_251.out _).trans (((cell_far (p := ⟨gb251, _, none⟩) NB249_251.out _).trans (hHeld.1)))), ((cell_far (p := ⟨gb251, _, none⟩) NB249_251.out _).trans (((cell_far (p := ⟨gb251, _, none⟩) NB249_251.out _).trans (hHeld.2.1)))), ((cell_far (p := ⟨gb251, _, none⟩) NB250_251.out _).trans (((cell_far (p := ⟨gb251, _, none⟩) NB250_251.out _).trans (hHeld.2.2.1)))), ((cell_far (p := ⟨gb251, _, none⟩) NB250_251.out _).trans (((cell_far (p := ⟨gb251, _, none⟩) NB250_251.out _).trans (hHeld.2.2.2))))⟩ (fun hHeld => ?_)
 clear hK K
 refine done_ (done_of HT_.out (by kernel_rfl)) ?_
 try go_wp2
 refine bodyPost_ret (results_cell_row rfl _ _ gb251 25 #[.bool t257, .slice Ao17 t258.length co17] (0, 0) _ rfl (by (with_reducible repeat (first | refine blk_drewN ?_ _ | refine blk_drew ?_ | refine blk_alloc ?_ _)); refine blk_put (cs := #[.bool t257, .slice none 0 0]) ?_ 1 _ rfl; (with_reducible repeat (first | refine blk_drewN ?_ _ | refine blk_drew ?_ | refine blk_alloc ?_ _)); refine blk_put (cs := #[.bool false, .slice none 0 0]) ?_ 0 _ rfl; (with_reducible repeat (first | refine blk_drewN ?_ _ | refine blk_drew ?_ | refine blk_alloc ?_ _)); exact BK251.out) Try.underlying25 rfl (by kernel_rfl)) rfl ?_
 exact ⟨_, by rfl, by (with_reducible repeat (first | apply Kd.R_alloc | apply Kd.R_drewN | apply Kd.R_drew)); exact Kd.R_mono (Kd.R_far (p := ⟨gb251, 1, none⟩) (Kd.R_far (p := ⟨gb251, 0, none⟩) (Kd.R_types HO260.out BK251.out (by decide)) (fun _ hk => hk.2) (.bool t257)) (fun _ hk => hk.2) (.slice Ao17 t258.length co17)) (fun _ hk => trivial), by repeat (first | (with_reducible first | exact HB.out | apply below_alloc | apply pw_below_drewN | apply below_drew1 | refine below_set ?_ GE249.out | refine below_set ?_ GE250.out | refine below_set ?_ GE251.out) | exact HB.out)⟩

theorem whole_Mul.ev {m m' : Bool} {l l' : List Int} {a b : Int} {K J : Nat} (ha : Zn.Is m l a K) (hb : Zn.Is m' l' b J) (hK : K + J < 1000000) : Ev (fun k => whole_Mul.f k m l m' l') (Zn.zd (a * b)) := by
 have M := nat_Mul.ev (ha.ok (by omega)) (hb.ok (by omega))
 rw [← ha.abs, ← hb.abs] at M
 unfold whole_Mul.f
 refine Ev.bind (whole_Sign.ev ha (by omega)) (Ev.bind (whole_Sign.ev hb (by omega)) (Ev.bind M ?_))
 have d : decide (wrap64 (a.sign * b.sign) < 0) = decide (a * b < 0) := by rw [Zn.w64_sign]; exact decide_eq_decide.2 (Zn.sign_mul_neg a b)
 have R := whole_Make.ev (Zn.Is.nd (m := decide (a * b < 0)) (Num.mul_lt ha.lt hb.lt)) hK
 rw [Zn.mul_sign] at R
 refine Ev.congr (fun k => ?_) (Ev.bind R (Ev.now _))
 rw [d]
/-! ### whole_Neg: function 61 -/
def whole_Neg.f (k : Nat) (a0_0 : Bool) (l0_1 : List Int) : Option (Bool × List Int) := (whole_Make.f k (!a0_0) l0_1).bind fun bt263 => (some (bt263.1, bt263.2))
set_option maxHeartbeats 8000000 in
set_option maxRecDepth 100000 in
theorem whole_Neg.calls (k : Nat) (a0_0 : Bool) (A0_1 : Option Addr) (c0_1 : Nat) (l0_1 : List Int) (r1 : Bool) (r2 : List Int) (w : World) (hr0_1 : Kd.C (Kd.int .u32) w A0_1 l0_1.length l0_1) (hc0_1 : l0_1.length ≤ c0_1) (h : whole_Neg.f k a0_0 l0_1 = some (r1, r2)) :
  Calls Try.prog 61 #[.agg #[.bool a0_0, .slice A0_1 l0_1.length c0_1]] w fun e w' => ∃ v1_ : Value, e = .returned (.agg #[.bool r1, v1_]) ∧ Kd.R (Kd.int .u32) 89 w' w.heap.size (fun _ => True) v1_ r2 ∧ Below w.heap.size w w' := by
 have hu25 := Try.underlying25
 have HR0_1 := Aside0.mk hr0_1
 have HC0_1 := Aside0.mk hc0_1
 clear hr0_1 hc0_1
 have HB := Aside0.mk (Below.refl w.heap.size w)
 have H : ((whole_Make.f k (!a0_0) l0_1).bind fun bt263 => (some (bt263.1, bt263.2))) = some (r1, r2) := h
 clear h
 replace H := Option.bind_eq_some_iff.mp H
 obtain ⟨⟨t263, t264⟩, A20, H⟩ := H
 replace H : (some (t263, t264)) = some (r1, r2) := H
 have A2 := Aside0.mk A20
 clear A20
 simp only [Option.some.injEq, Prod.mk.injEq] at H
 obtain ⟨rfl, rfl⟩ := H
 go_enter Try.func61, Try.ntmps61
 go_wp2_with (first | ((with_reducible refine gate_dst (N := 1) rfl ?_); refine Short.boxS_ (N := 1) (cs := #[.bool a0_0, .slice A0_1 l0_1.length c0_1]) (t := 25) ?_; intro gb261 hg w3 hbox hb; have BK261 := Aside0.mk (hbox); have GW261 := Aside0.mk ((by rw [hg]; exact (below_size (by repeat (first | (with_reducible first | exact HB.out | apply below_alloc | apply pw_below_drewN | apply below_drew1) | exact HB.out))) : w.heap.size ≤ gb261)); have GE261 := Aside0.mk ((by rw [hg]; exact (below_size (by repeat (first | (with_reducible first | exact HB.out | apply below_alloc | apply pw_below_drewN | apply below_drew1) | exact HB.out))) : w.heap.size ≤ gb261)); replace HB := Aside0.mk (below_step (by repeat (first | (with_reducible first | exact HB.out | apply below_alloc | apply pw_below_drewN | apply below_drew1) | exact HB.out)) hb); clear hb hbox hg) | ((with_reducible refine gate_dst (N := 2) rfl ?_); refine Short.boxS_ (N := 2) (cs := #[.bool false, .slice none 0 0]) (t := 25) ?_; intro gb262 hg w4 hbox hb; have BK262 := Aside0.mk (hbox); have GW262 := Aside0.mk ((by rw [hg]; exact (below_size HB.out) : w.heap.size ≤ gb262)); have GE262 := Aside0.mk ((by rw [hg]; exact (below_size HB.out) : w.heap.size ≤ gb262)); replace HB := Aside0.mk (below_step HB.out hb); have NB261_262 := Short.ltA_ hg BK261; have NB262_261 := Short.gtA_ hg BK261; replace BK261 := Aside0.mk (blk_below BK261.out hb); clear hb hbox hg; have hnb5 := NB261_262.out; have hnc5 := NB262_261.out; have hcz6_0 : w4.cell? ⟨gb261, 0, none⟩ = some (.bool a0_0) := (blk_cell BK261.out 0).trans rfl; have hcz6_1 : w4.cell? ⟨gb261, 1, none⟩ = some (.slice A0_1 l0_1.length c0_1) := (blk_cell BK261.out 1).trans rfl; have hfz6_0 := blk_frozen BK261.out 0; have hfz6_1 := blk_frozen BK261.out 1) | ((with_reducible refine gate_callee (f := 45) rfl ?_); refine Short.goesS_ (some 8) Try.func45 #[.bool (!a0_0), .slice A0_1 l0_1.length c0_1] ?_; (with_reducible refine (whole_Make.calls k (!a0_0) _ _ l0_1 t263 t264 _ (Kd.C_below HR0_1.out HB.out) HC0_1.out A2.out).mono ?_); rintro e w7 ⟨v265, rfl, ho0, hb⟩; refine ⟨_, rfl, ?_⟩; have HO266 := Aside0.mk (Kd.R_lower ho0 (below_size HB.out)); replace BK261 := Aside0.mk (blk_below BK261.out hb); replace BK262 := Aside0.mk (blk_below BK262.out hb); replace HB := Aside0.mk (below_step HB.out hb); (try clear hb); (try clear ho0); have hcz8_0 : w7.cell? ⟨gb262, 0, none⟩ = some (.bool false) := (blk_cell BK262.out 0).trans rfl; have hcz8_1 : w7.cell? ⟨gb262, 1, none⟩ = some (.slice none 0 0) := (blk_cell BK262.out 1).trans rfl; have hfz8_0 := blk_frozen BK262.out 0; have hfz8_1 := blk_frozen BK262.out 1; obtain ⟨Ao9, co9, eo9⟩ := Kd.R_slice HO266.out; subst eo9))
 refine bodyPost_ret (results_cell_row rfl _ _ gb262 25 #[.bool t263, .slice Ao9 t264.length co9] (0, 0) _ rfl (by (with_reducible repeat (first | refine blk_drewN ?_ _ | refine blk_drew ?_ | refine blk_alloc ?_ _)); refine blk_put (cs := #[.bool t263, .slice none 0 0]) ?_ 1 _ rfl; (with_reducible repeat (first | refine blk_drewN ?_ _ | refine blk_drew ?_ | refine blk_alloc ?_ _)); refine blk_put (cs := #[.bool false, .slice none 0 0]) ?_ 0 _ rfl; (with_reducible repeat (first | refine blk_drewN ?_ _ | refine blk_drew ?_ | refine blk_alloc ?_ _)); exact BK262.out) Try.underlying25 rfl (by kernel_rfl)) rfl ?_
 exact ⟨_, by rfl, by (with_reducible repeat (first | apply Kd.R_alloc | apply Kd.R_drewN | apply Kd.R_drew)); exact Kd.R_mono (Kd.R_far (p := ⟨gb262, 1, none⟩) (Kd.R_far (p := ⟨gb262, 0, none⟩) (Kd.R_types HO266.out BK262.out (by decide)) (fun _ hk => hk.2) (.bool t263)) (fun _ hk => hk.2) (.slice Ao9 t264.length co9)) (fun _ hk => trivial), by repeat (first | (with_reducible first | exact HB.out | apply below_alloc | apply pw_below_drewN | apply below_drew1 | refine below_set ?_ GE261.out | refine below_set ?_ GE262.out) | exact HB.out)⟩

theorem whole_Neg.ev {m : Bool} {l : List Int} {z : Int} {K : Nat} (h : Zn.Is m l z K) (hK : K < 1000000) : Ev (fun k => whole_Neg.f k m l) (Zn.zd (-z)) := by
 unfold whole_Neg.f
 exact Ev.bind (whole_Make.ev h.neg hK) (Ev.now _)
/-! ### nat_Add: function 75 -/
def nat_Add.l0 : Nat → List Int → List Int → List Int → Int → Int → Int → Option (List Int)
 | 0, _, _, _, _, _, _ => none
 | k + 1, x0, x1, x5, x6, x16, x17 => if x17 < x16 then ((nat_at.f x0 x17).bind fun t270 => ((nat_at.f x1 x17).bind fun t271 => (if 0 ≤ x17 then (if x17 < (x5.length : Int) then (nat_Add.l0 k x0 x1 (x5.set (x17 : Int).toNat ((IntKind.u64.wrap (x6 + (IntKind.u64.wrap (t270 + t271)))) % 4294967296)) ((IntKind.u64.wrap (x6 + (IntKind.u64.wrap (t270 + t271)))) / 4294967296) x16 (wrap64 (x17 + 1))) else (none)) else (none)))) else ((nat_trim.f k x5).bind fun t273 => (some t273))
def nat_Add.f (k : Nat) (l0 : List Int) (l1 : List Int) : Option (List Int) := if 0 ≤ (wrap64 ((mx (l0.length : Int) (l1.length : Int)) + 1)) then (if (wrap64 ((mx (l0.length : Int) (l1.length : Int)) + 1) : Int).toNat ≤ 70368744177664 then ((some (List.replicate (wrap64 ((mx (l0.length : Int) (l1.length : Int)) + 1) : Int).toNat 0 : List Int)).bind fun y267 => (nat_Add.l0 k l0 l1 y267 0 (y267.length : Int) 0)) else (none)) else (none)
set_option maxHeartbeats 8000000 in
set_option maxRecDepth 100000 in
theorem nat_Add.calls (k : Nat) (A0 : Option Addr) (c0 : Nat) (l0 : List Int) (A1 : Option Addr) (c1 : Nat) (l1 : List Int) (r : List Int) (w : World) (hr0 : Kd.C (Kd.int .u32) w A0 l0.length l0) (hc0 : l0.length ≤ c0) (hr1 : Kd.C (Kd.int .u32) w A1 l1.length l1) (hc1 : l1.length ≤ c1) (h : nat_Add.f k l0 l1 = some r) :
  Calls Try.prog 75 #[.slice A0 l0.length c0, .slice A1 l1.length c1] w fun e w' => ∃ v0_ : Value, e = .returned (v0_) ∧ Kd.R (Kd.int .u32) 89 w' w.heap.size (fun _ => True) v0_ r ∧ Below w.heap.size w w' := by
 have HR0 := Aside0.mk hr0
 have HC0 := Aside0.mk hc0
 clear hr0 hc0
 have HR1 := Aside0.mk hr1
 have HC1 := Aside0.mk hc1
 clear hr1 hc1
 have HB := Aside0.mk (Below.refl w.heap.size w)
 have H : (if 0 ≤ (wrap64 ((mx (l0.length : Int) (l1.length : Int)) + 1)) then (if (wrap64 ((mx (l0.length : Int) (l1.length : Int)) + 1) : Int).toNat ≤ 70368744177664 then ((some (List.replicate (wrap64 ((mx (l0.length : Int) (l1.length : Int)) + 1) : Int).toNat 0 : List Int)).bind fun y267 => (nat_Add.l0 k l0 l1 y267 0 (y267.length : Int) 0)) else (none)) else (none)) = some r := h
 clear h
 obtain ⟨ji3, hji3⟩ : ∃ j_ : Int, (mx (l0.length : Int) (l1.length : Int)) = j_ := ⟨_, rfl⟩
 replace H : (if 0 ≤ (wrap64 ((ji3) + 1)) then (if (wrap64 ((ji3) + 1) : Int).toNat ≤ 70368744177664 then ((some (List.replicate (wrap64 ((ji3) + 1) : Int).toNat 0 : List Int)).bind fun y267 => (nat_Add.l0 k l0 l1 y267 0 (y267.length : Int) 0)) else (none)) else (none)) = some r := by first | (rw [hji3] at H; exact H) | (simp only [hji3] at H ⊢; exact H)
 (try (have hji3l : 0 ≤ ji3 := by (rw [← hji3]; unfold mx; (repeat' split) <;> omega)))
 (try (have hji3m : 0 ≤ ji3 := by omega))
 have hji3_ : (if (l0.length : Int) < (l1.length : Int) then (l1.length : Int) else (l0.length : Int)) = ji3 := hji3
 have hji3n : (if l0.length < l1.length then (l1.length : Int) else (l0.length : Int)) = ji3 := by rw [← hji3]; unfold mx; (repeat' split) <;> omega
 obtain ⟨ji4, hji4⟩ : ∃ j_ : Int, (wrap64 ((ji3) + 1)) = j_ := ⟨_, rfl⟩
 replace H : (if 0 ≤ (ji4) then (if (ji4 : Int).toNat ≤ 70368744177664 then ((some (List.replicate (ji4 : Int).toNat 0 : List Int)).bind fun y267 => (nat_Add.l0 k l0 l1 y267 0 (y267.length : Int) 0)) else (none)) else (none)) = some r := by first | (rw [hji4] at H; exact H) | (simp only [hji4] at H ⊢; exact H)
 have hji4w : (IntKind.i64.wrap ((ji3) + 1)) = ji4 := (i64_w _).trans hji4
 by_cases c5 : 0 ≤ (ji4)
 ·rw [if_pos c5] at H
  have c5b0 := eq_true c5
  have c5b1 : decide (0 ≤ (ji4)) = true := decide_eq_true c5
  clear c5
  by_cases c6 : (ji4 : Int).toNat ≤ 70368744177664
  ·rw [if_pos c6] at H
   have c6b0 := eq_true c6
   have c6b1 : decide ((ji4 : Int).toNat ≤ 70368744177664) = true := decide_eq_true c6
   clear c6
   obtain ⟨y267, hy267⟩ : ∃ y_ : List Int, y_ = (List.replicate (ji4 : Int).toNat 0) := ⟨_, rfl⟩
   replace H : (nat_Add.l0 k l0 l1 y267 0 (y267.length : Int) 0) = some r := by first | (rw [hy267]; with_reducible exact H) | (have H2_ := (Option.bind_some _ _).symm.trans H; rw [hy267]; with_reducible exact H2_) | (have H2_ := (Option.bind_some _ _).symm.trans H; with_reducible exact H2_) | with_reducible exact H | (rw [hy267]; exact H) | exact H
   have Ny267 := Aside0.mk hy267
   clear hy267
   have H' := Aside0.mk H
   clear H
   go_enter Try.func75, Try.ntmps75
   go_wp2_with (first | ((with_reducible refine gate_dst (N := 14) rfl ?_); refine Kd.R_make (Kd.int .u32) _ 89 rfl (N := 14) rfl 23 _ _ rfl ji4 rfl rfl Try.underlying23 (.int .u32 0) 4 info89 rfl (by decide) (by omega) 0 (ok := fun _ => True) (okp := fun _ => True) rfl (fun _ hk => hk) trivial (of_decide_eq_true (by first | (with_reducible assumption) | assumption)) (Nat.le_trans (Nat.mul_le_mul_right _ (of_decide_eq_true (by first | (with_reducible assumption) | assumption) : ji4.toNat ≤ 70368744177664)) (by omega)) (Below.refl _ _) (Nat.le_refl _) ?_; intro v268 w7 ho8 hb hg_ hnew_; clear hg_ hnew_; (first | rw [← Ny267.out] at ho8 | (simp only [Int.reduceToNat] at ho8; rw [← Ny267.out] at ho8)); have HO269 := Aside0.mk (Kd.R_lower ho8 (below_size (by repeat (first | (with_reducible first | exact HB.out | apply below_alloc | apply pw_below_drewN | apply below_drew1) | exact HB.out)))); replace HB := Aside0.mk (below_step (by repeat (first | (with_reducible first | exact HB.out | apply below_alloc | apply pw_below_drewN | apply below_drew1) | exact HB.out)) hb); clear hb ho8; obtain ⟨Ao9, co9, eo9⟩ := Kd.R_slice HO269.out; subst eo9))
   go_loopg [6, 17] k (fun kq v6 v17 w' => ∃ (x5_1 : List Int) (x6_1 : Int) (x17_1 : Int), v6 = .int .u64 x6_1 ∧ v17 = .int .i64 x17_1 ∧ Aside0 (nat_Add.l0 kq l0 l1 x5_1 x6_1 (y267.length : Int) x17_1 = some r) ∧ Aside0 (kq ≤ k) ∧ Aside0 (Kd.R (Kd.int .u32) 89 w' w.heap.size (fun _ => True) (.slice Ao9 y267.length co9) x5_1) ∧ Aside0 (Below w.heap.size w w'))
   case atStart => exact ⟨(y267), (0), (0), (by first | rfl | (simp; done) | (simp [*]; done)), (by first | rfl | (simp; done) | (simp [*]; done)), H', ⟨Nat.le_refl _⟩, ⟨by (with_reducible repeat (first | apply Kd.R_alloc | apply Kd.R_drewN | apply Kd.R_drew)); exact HO269.out⟩, ⟨by repeat (first | (with_reducible first | exact HB.out | apply below_alloc | apply pw_below_drewN | apply below_drew1) | exact HB.out)⟩⟩
   case round =>
    clear H'
    try clear c1
    try clear p2
    try clear c5
    try clear c5b0
    try clear c5b1
    try clear c6
    try clear c6b0
    try clear c6b1
    try clear p6
    try clear c7
    obtain ⟨x5_1, x6_1, x17_1, rfl, rfl, HA, HK1, HO_5, HB⟩ := hrel
    have hl5_1 := (Kd.R_reads' HO_5.out).1
    rw [hl5_1] at HO_5
    (try simp only [hl5_1])
    cases gk with
    | zero => exact absurd HA.out (by simp [nat_Add.l0])
    | succ k1 =>
     have H := HA.out
     clear HA
     simp only [nat_Add.l0] at H
     by_cases c10 : x17_1 < (y267.length : Int)
     ·rw [if_pos c10] at H
      have c10b0 : decide (x17_1 < (y267.length : Int)) = true := decide_eq_true c10
      (try (have c10z0 : decide (x17_1 < (x5_1.length : Int)) = true := by rw [← hl5_1]; exact c10b0))
      clear c10
      replace H := Option.bind_eq_some_iff.mp H
      obtain ⟨t270, A110, H⟩ := H
      try dsimp only at H
      have A11 := Aside0.mk A110
      clear A110
      replace H := Option.bind_eq_some_iff.mp H
      obtain ⟨t271, A120, H⟩ := H
      try dsimp only at H
      have A12 := Aside0.mk A120
      clear A120
      by_cases c13 : 0 ≤ x17_1
      ·rw [if_pos c13] at H
       have c13b0 : decide (0 ≤ x17_1) = true := decide_eq_true c13
       clear c13
       by_cases c14 : x17_1 < (x5_1.length : Int)
       ·rw [if_pos c14] at H
        have c14b0 : decide (x17_1 < (x5_1.length : Int)) = true := decide_eq_true c14
        clear c14
        obtain ⟨y272, hy272⟩ : ∃ y_ : List Int, y_ = (x5_1.set (x17_1 : Int).toNat ((IntKind.u64.wrap (x6_1 + (IntKind.u64.wrap (t270 + t271)))) % 4294967296)) := ⟨_, rfl⟩
        replace H : (nat_Add.l0 k1 l0 l1 y272 ((IntKind.u64.wrap (x6_1 + (IntKind.u64.wrap (t270 + t271)))) / 4294967296) (y267.length : Int) (wrap64 (x17_1 + 1))) = some r := by first | (rw [hy272]; with_reducible exact H) | (have H2_ := (Option.bind_some _ _).symm.trans H; rw [hy272]; with_reducible exact H2_) | (have H2_ := (Option.bind_some _ _).symm.trans H; with_reducible exact H2_) | with_reducible exact H | (rw [hy272]; exact H) | exact H
        have Ny272 := Aside0.mk hy272
        clear hy272
        have H' := Aside0.mk H
        clear H
        go_wp2_with (first | ((with_reducible refine gate_callee (f := 93) rfl ?_); refine Short.goesS_ (some 23) Try.func93 #[.slice A0 l0.length c0, .int .i64 x17_1] ?_; (with_reducible refine (nat_at.calls _ _ l0 x17_1 t270 _ (Kd.C_below HR0.out HB.out) HC0.out A11.out).mono ?_); rintro e w' ⟨rfl, ⟨nd, rfl⟩⟩; refine ⟨_, rfl, ?_⟩; (try (rw [drewN_self wr]; generalize hq_ : World.drewN wr _ = wr; have n0_ : Aside0 (Kd.R (Kd.int .u32) 89 wr w.heap.size (fun _ => True) (.slice Ao9 x5_1.length co9) x5_1) := ⟨by rw [← hq_]; exact HO_5.out⟩; have n1_ : Aside0 (Below w.heap.size w wr) := ⟨by rw [← hq_]; exact (by repeat (first | (with_reducible first | exact HB.out | apply below_alloc | apply pw_below_drewN | apply below_drew1) | exact HB.out))⟩; clear HO_5 HB hq_; have HO_5 := n0_; have HB := n1_; clear n0_ n1_))) | ((with_reducible refine gate_callee (f := 93) rfl ?_); refine Short.goesS_ (some 26) Try.func93 #[.slice A1 l1.length c1, .int .i64 x17_1] ?_; (with_reducible refine (nat_at.calls _ _ l1 x17_1 t271 _ (Kd.C_below HR1.out HB.out) HC1.out A12.out).mono ?_); rintro e w' ⟨rfl, ⟨nd, rfl⟩⟩; refine ⟨_, rfl, ?_⟩; (try (rw [drewN_self wr]; generalize hq_ : World.drewN wr _ = wr; have n0_ : Aside0 (Kd.R (Kd.int .u32) 89 wr w.heap.size (fun _ => True) (.slice Ao9 x5_1.length co9) x5_1) := ⟨by rw [← hq_]; exact HO_5.out⟩; have n1_ : Aside0 (Below w.heap.size w wr) := ⟨by rw [← hq_]; exact (by repeat (first | (with_reducible first | exact HB.out | apply below_alloc | apply pw_below_drewN | apply below_drew1) | exact HB.out))⟩; clear HO_5 HB hq_; have HO_5 := n0_; have HB := n1_; clear n0_ n1_)); have p15 : 0 ≤ (x17_1 : Int) := of_decide_eq_true (by first | (with_reducible assumption) | assumption); have q15 : (x17_1 : Int) < ((x5_1.length : Int) : Int) := of_decide_eq_true (by first | (with_reducible assumption) | assumption); obtain ⟨go15, co15, eo15, gb15, gl15, cl15, HG15⟩ := Kd.R_form HO_5.out (by omega); (first | cases eo15 | (injection eo15 with ea_ en_ ec_; (first | subst ea_ | (injection ea_ with ea_; subst ea_)); subst ec_; clear en_)); have GB15 := Aside0.mk gb15; have GG15 := Aside0.mk HG15; clear gb15 gl15 HG15; obtain ⟨hx15_0, hf15_0⟩ := Kd.R_celln 0 HO_5.out (x17_1 : Int) p15 q15; replace p15 := eq_true p15; replace q15 := eq_true q15; obtain ⟨hy16_, hz16_⟩ := Kd.R_celln 0 HO_5.out (x17_1 : Int) (of_decide_eq_true (by first | (with_reducible assumption) | assumption)) (of_decide_eq_true (by first | (with_reducible assumption) | assumption)); have HP16 := Kd.R_putg HO_5.out (x17_1 : Int) ((IntKind.u64.wrap (x6_1 + (IntKind.u64.wrap (t270 + t271)))) % 4294967296)) | ((with_reducible refine gate_store (t := 89) (p := 33) rfl ?_); refine store_event (t := 89) (p := 33) (v := ?vo_w17) (w1 := (wr.setCell ⟨go15, (x17_1 : Int).toNat, none⟩ (.int .u32 ((IntKind.u64.wrap (x6_1 + (IntKind.u64.wrap (t270 + t271)))) % 4294967296)))) ?hg ?ho ?hn ?hr ?_; (case ho => rfl); (case hg => rfl); (case hn => rfl); (case hr => first | (go_simp; done) | (go_simp; rfl)); intro w17 hw; have hg : wr.grownBy w17 (some go15) := (by rw [hw]; exact HP16.2); have hp_ : Kd.R (Kd.int .u32) 89 w17 w.heap.size (fun _ => True) (.slice (some ⟨go15, 0, none⟩) x5_1.length co9) y272 := (by rw [hw, Ny272.out]; exact HP16.1); clear HP16; replace HO_5 := Aside0.mk (hp_); replace HB := Aside0.mk ((by rw [hw]; exact below_set (HB.out) GB15.out : Below w.heap.size w w17)); clear hg hw hp_))
        (try simp only [← hl5_1])
        go_roundg k1
        case measure => have := HK1.out; omega
        case rel => exact ⟨(y272), ((IntKind.u64.wrap (x6_1 + (IntKind.u64.wrap (t270 + t271)))) / 4294967296), (wrap64 (x17_1 + 1)), (by first | rfl | (simp; done) | (simp [*]; done)), (by first | rfl | (simp; done) | (simp [*]; done)), H', ⟨by have := HK1.out; omega⟩, ⟨by (try simp only [hl5_1]); (with_reducible repeat (first | apply Kd.R_alloc | apply Kd.R_drewN | apply Kd.R_drew)); exact HO_5.out⟩, ⟨by repeat (first | (with_reducible first | exact HB.out | apply below_alloc | apply pw_below_drewN | apply below_drew1) | exact HB.out)⟩⟩
       ·rw [if_neg c14] at H
        exact absurd H (by simp)
      ·rw [if_neg c13] at H
       exact absurd H (by simp)
     ·rw [if_neg c10] at H
      have c10b0 : decide (x17_1 < (y267.length : Int)) = false := decide_eq_false c10
      (try (have c10z0 : decide (x17_1 < (x5_1.length : Int)) = false := by rw [← hl5_1]; exact c10b0))
      clear c10
      replace H := Option.bind_eq_some_iff.mp H
      obtain ⟨t273, A180, H⟩ := H
      replace H : (some t273) = some r := H
      have A18 := Aside0.mk A180
      clear A180
      obtain rfl := Option.some.inj H
      go_wp2_with (first | ((with_reducible refine gate_callee (f := 71) rfl ?_); refine Short.goesS_ (some 38) Try.func71 #[.slice Ao9 x5_1.length co9] ?_; (with_reducible refine (nat_trim.calls k1 _ _ x5_1 t273 _ ((Kd.R_reads' HO_5.out).2.2) ((Kd.R_reads' HO_5.out).2.1) A18.out).mono ?_); rintro e w19 ⟨v274, rfl, ho0, hb⟩; refine ⟨_, rfl, ?_⟩; have HO275 := Aside0.mk (Kd.R_lower (Kd.R_new' ho0 (Kd.R_lt HO_5.out)) (below_size (by repeat (first | (with_reducible first | exact HB.out | apply below_alloc | apply pw_below_drewN | apply below_drew1) | exact HB.out)))); replace HO_5 := Aside0.mk (Kd.R_elder' HO_5.out (Kd.R_base ho0) hb); replace HB := Aside0.mk (below_step (by repeat (first | (with_reducible first | exact HB.out | apply below_alloc | apply pw_below_drewN | apply below_drew1) | exact HB.out)) hb); (try clear hb); (try clear ho0)))
      go_ret
      exact ⟨_, by first | rfl | (simp [errW_none, errW_some] <;> rfl) | (simp only [← hji3, ← hji4]; first | rfl | (simp [errW_none, errW_some] <;> rfl)) | (simp [*, errW_none, errW_some] <;> rfl), by (with_reducible repeat (first | apply Kd.R_alloc | apply Kd.R_drewN | apply Kd.R_drew)); exact Kd.R_mono HO275.out (fun _ hk => trivial), by repeat (first | (with_reducible first | exact HB.out | apply below_alloc | apply pw_below_drewN | apply below_drew1) | exact HB.out)⟩
  ·rw [if_neg c6] at H
   exact absurd H (by simp)
 ·rw [if_neg c5] at H
  exact absurd H (by simp)

theorem nat_Add.ev_l {a b : List Int} (ha : Num.Ws a) (hb : Num.Ws b) {L : Nat} (hLa : a.length < L) (hLb : b.length < L) (hL : L < 35184372088832) (d : Nat) : ∀ (i : Nat) (x : List Int) (c : Nat), i + d = L → x.length = L → Num.Ws x → c ≤ 1 →
  Num.nv (x.take i) + 2 ^ (32 * i) * c = Num.nv (a.take i) + Num.nv (b.take i) → Ev (fun k => nat_Add.l0 k a b x (c : Int) (L : Int) (i : Int)) (Num.nd (Num.nv a + Num.nv b)) := by
 induction d with
 | zero =>
  intro i x c hi hx hW hc hv
  obtain rfl : i = L := by omega
  rw [List.take_of_length_le (by omega), List.take_of_length_le (by omega), List.take_of_length_le (by omega)] at hv
  have hva := Num.nv_lt ha
  have hvb := Num.nv_lt hb
  have hP : 2 ^ (32 * a.length) * 2 ≤ 2 ^ (32 * i) := by
   rw [← Nat.pow_succ]
   exact Nat.pow_le_pow_right (by omega) (by omega)
  have hQ : 2 ^ (32 * b.length) * 2 ≤ 2 ^ (32 * i) := by
   rw [← Nat.pow_succ]
   exact Nat.pow_le_pow_right (by omega) (by omega)
  obtain rfl : c = 0 := by
   rcases Nat.eq_zero_or_pos c with h | h
   ·exact h
   ·obtain rfl : c = 1 := by omega
    omega
  have hv2 : Num.nv x = Num.nv a + Num.nv b := by omega
  refine Ev.step (f := fun k => (nat_trim.f k x).bind fun t => some t) (fun k => ?_) ?_
  ·simp only [nat_Add.l0]
   rw [if_neg (by omega)]
  ·rw [← hv2]
   exact Ev.bind (nat_trim.ev hW (by omega)) (Ev.now _)
 | succ d ih =>
  intro i x c hi hx hW hc hv
  have hga := ha.getD i
  have hgb := hb.getD i
  obtain ⟨p, hp⟩ : ∃ p : Nat, (p : Int) = a.getD i 0 := ⟨(a.getD i 0).toNat, by omega⟩
  obtain ⟨q, hq⟩ : ∃ q : Nat, (q : Int) = b.getD i 0 := ⟨(b.getD i 0).toNat, by omega⟩
  have c1 : (i : Int) < (L : Int) := by omega
  have c2 : 0 ≤ (i : Int) := by omega
  have c3 : (i : Int) < (x.length : Int) := by omega
  refine Ev.step (f := fun k => nat_Add.l0 k a b (x.set i (((c + p + q) % 4294967296 : Nat) : Int)) (((c + p + q) / 4294967296 : Nat) : Int) (L : Int) ((i + 1 : Nat) : Int)) (fun k => ?_) ?_
  ·have e1 : IntKind.u64.wrap ((p : Int) + (q : Int)) = (p : Int) + (q : Int) := nat_trim.u64w (by omega) (by omega)
   have e2 : IntKind.u64.wrap ((c : Int) + ((p : Int) + (q : Int))) = ((c + p + q : Nat) : Int) := by rw [nat_trim.u64w (by omega) (by omega)]; omega
   have e3 : ((c + p + q : Nat) : Int) % 4294967296 = (((c + p + q) % 4294967296 : Nat) : Int) := by omega
   have e4 : ((c + p + q : Nat) : Int) / 4294967296 = (((c + p + q) / 4294967296 : Nat) : Int) := by omega
   have e5 : wrap64 ((i : Int) + 1) = ((i + 1 : Nat) : Int) := by rw [nat_trim.w64 (by omega) (by omega)]; omega
   simp only [nat_Add.l0]
   rw [if_pos c1, nat_at.sem ha, nat_at.sem hb]
   simp only [Option.bind_some]
   rw [if_pos c2, if_pos c3, ← hp, ← hq, e1, e2, e3, e4, e5]
   simp only [Int.toNat_natCast]
  ·refine ih (i + 1) _ _ (by omega) (by rw [List.length_set]; exact hx) (hW.set i (by omega) (by omega)) (by omega) ?_
   rw [Num.nv_set_take (by omega), Num.nv_take_succ, Num.nv_take_succ, Num.pow_succ32, Int.toNat_natCast, ← hp, ← hq, Int.toNat_natCast, Int.toNat_natCast]
   have := Num.split_mul (2 ^ (32 * i)) (c + p + q)
   have h2 : 2 ^ (32 * i) * (c + p + q) = 2 ^ (32 * i) * c + 2 ^ (32 * i) * p + 2 ^ (32 * i) * q := by rw [Nat.mul_add, Nat.mul_add]
   omega
theorem nat_Add.ev {a b : List Int} (ha : Num.okw a = true) (hb : Num.okw b = true) : Ev (fun k => nat_Add.f k a b) (Num.nd (Num.nv a + Num.nv b)) := by
 obtain ⟨la, wa⟩ := (Num.okw_iff a).1 ha
 obtain ⟨lb, wb⟩ := (Num.okw_iff b).1 hb
 obtain ⟨L, hL⟩ : ∃ L : Nat, wrap64 (mx (a.length : Int) (b.length : Int) + 1) = (L : Int) ∧ a.length < L ∧ b.length < L ∧ L ≤ 1099511627776 := by
  refine ⟨max a.length b.length + 1, ?_, by omega, by omega, by omega⟩
  rw [nat_trim.w64 (by unfold mx; split <;> omega) (by unfold mx; split <;> omega)]
  unfold mx
  split <;> omega
 obtain ⟨hL, h1, h2, h3⟩ := hL
 have := nat_Add.ev_l wa wb h1 h2 (by omega) L 0 (List.replicate L 0) 0 (by omega) (by simp) (Num.Ws.replicate _) (by omega) (by simp [Num.nv])
 unfold nat_Add.f
 rw [hL]
 refine Ev.congr (fun k => ?_) this
 rw [if_pos (show (0 : Int) ≤ (L : Int) from by omega), Int.toNat_natCast, if_pos (show L ≤ 70368744177664 from by omega)]
 simp only [Option.bind_some, List.length_replicate]
 rfl
/-! ### whole_Add: function 64 -/
def whole_Add.f (k : Nat) (a0_0 : Bool) (l0_1 : List Int) (a1_0 : Bool) (l1_1 : List Int) : Option (Bool × List Int) := (whole_Sign.f k a0_0 l0_1).bind fun t279 => ((whole_Sign.f k a1_0 l1_1).bind fun t280 => (if ((decide (t279 < 0)) == (decide (t280 < 0))) = true then ((whole_Sign.f k a0_0 l0_1).bind fun t281 => ((nat_Add.f k l0_1 l1_1).bind fun t282 => ((whole_Make.f k (decide (t281 < 0)) t282).bind fun bt285 => (some (bt285.1, bt285.2))))) else ((nat_Sub.f k l0_1 l1_1).bind fun bt289 => (if bt289.2 = true then ((whole_Sign.f k a0_0 l0_1).bind fun t293 => ((whole_Make.f k (decide (t293 < 0)) bt289.1).bind fun bt294 => (some (bt294.1, bt294.2)))) else ((nat_Sub.f k l1_1 l0_1).bind fun bt298 => ((whole_Sign.f k a1_0 l1_1).bind fun t302 => ((whole_Make.f k (decide (t302 < 0)) bt298.1).bind fun bt303 => (some (bt303.1, bt303.2)))))))))
def whole_Add.T2 : Bool × List (List Nat × List Nat) := (true, [([], []), ([0], [0]), ([1], [1]), ([], []), ([3], [3]), ([], []), ([5], [5]), ([4, 6, 1], [4, 6]), ([2, 7, 7], [2, 7]), ([8, 8, 0, 1, 2, 3, 4, 5, 6, 7, 8], [8])])
def whole_Add.B2 : List Nat := [0, 1, 3, 0, 8, 0, 32, 123, 255, 511]
theorem whole_Add.tab2 : rtab .any (opsOf Try.f64 2) = whole_Add.T2 := by kernel_rfl
theorem whole_Add.bits2 : waitsOk whole_Add.T2.2 whole_Add.B2 = true := by kernel_rfl
set_option maxHeartbeats 8000000 in
set_option maxRecDepth 100000 in
theorem whole_Add.calls (k : Nat) (a0_0 : Bool) (A0_1 : Option Addr) (c0_1 : Nat) (l0_1 : List Int) (a1_0 : Bool) (A1_1 : Option Addr) (c1_1 : Nat) (l1_1 : List Int) (r1 : Bool) (r2 : List Int) (w : World) (hr0_1 : Kd.C (Kd.int .u32) w A0_1 l0_1.length l0_1) (hc0_1 : l0_1.length ≤ c0_1) (hr1_1 : Kd.C (Kd.int .u32) w A1_1 l1_1.length l1_1) (hc1_1 : l1_1.length ≤ c1_1) (h : whole_Add.f k a0_0 l0_1 a1_0 l1_1 = some (r1, r2)) :
  Calls Try.prog 64 #[.agg #[.bool a0_0, .slice A0_1 l0_1.length c0_1], .agg #[.bool a1_0, .slice A1_1 l1_1.length c1_1]] w fun e w' => ∃ v1_ : Value, e = .returned (.agg #[.bool r1, v1_]) ∧ Kd.R (Kd.int .u32) 89 w' w.heap.size (fun _ => True) v1_ r2 ∧ Below w.heap.size w w' := by
 have hu25 := Try.underlying25
 have HR0_1 := Aside0.mk hr0_1
 have HC0_1 := Aside0.mk hc0_1
 clear hr0_1 hc0_1
 have HR1_1 := Aside0.mk hr1_1
 have HC1_1 := Aside0.mk hc1_1
 clear hr1_1 hc1_1
 have HB := Aside0.mk (Below.refl w.heap.size w)
 have H : ((whole_Sign.f k a0_0 l0_1).bind fun t279 => ((whole_Sign.f k a1_0 l1_1).bind fun t280 => (if ((decide (t279 < 0)) == (decide (t280 < 0))) = true then ((whole_Sign.f k a0_0 l0_1).bind fun t281 => ((nat_Add.f k l0_1 l1_1).bind fun t282 => ((whole_Make.f k (decide (t281 < 0)) t282).bind fun bt285 => (some (bt285.1, bt285.2))))) else ((nat_Sub.f k l0_1 l1_1).bind fun bt289 => (if bt289.2 = true then ((whole_Sign.f k a0_0 l0_1).bind fun t293 => ((whole_Make.f k (decide (t293 < 0)) bt289.1).bind fun bt294 => (some (bt294.1, bt294.2)))) else ((nat_Sub.f k l1_1 l0_1).bind fun bt298 => ((whole_Sign.f k a1_0 l1_1).bind fun t302 => ((whole_Make.f k (decide (t302 < 0)) bt298.1).bind fun bt303 => (some (bt303.1, bt303.2)))))))))) = some (r1, r2) := h
 clear h
 replace H := Option.bind_eq_some_iff.mp H
 obtain ⟨t279, A30, H⟩ := H
 try dsimp only at H
 have A3 := Aside0.mk A30
 clear A30
 replace H := Option.bind_eq_some_iff.mp H
 obtain ⟨t280, A40, H⟩ := H
 try dsimp only at H
 have A4 := Aside0.mk A40
 clear A40
 by_cases c5 : ((decide (t279 < 0)) == (decide (t280 < 0))) = true
 ·rw [if_pos c5] at H
  have c5b0 : ((decide (t279 < 0)) == (decide (t280 < 0))) = true := c5
  (try (have c5b1 : decide ((decide (t279 < 0)) = (decide (t280 < 0))) = true := by simpa using c5))
  (try (have c5b2 : ((decide (t279 < 0)) == (decide (t280 < 0))) = true := by simpa using c5))
  clear c5
  replace H := Option.bind_eq_some_iff.mp H
  obtain ⟨t281, A60, H⟩ := H
  try dsimp only at H
  have A6 := Aside0.mk A60
  clear A60
  replace H := Option.bind_eq_some_iff.mp H
  obtain ⟨t282, A70, H⟩ := H
  try dsimp only at H
  have A7 := Aside0.mk A70
  clear A70
  replace H := Option.bind_eq_some_iff.mp H
  obtain ⟨⟨t285, t286⟩, A80, H⟩ := H
  replace H : (some (t285, t286)) = some (r1, r2) := H
  have A8 := Aside0.mk A80
  clear A80
  simp only [Option.some.injEq, Prod.mk.injEq] at H
  obtain ⟨rfl, rfl⟩ := H
  go_enter Try.func64, Try.ntmps64
  try go_wp2_with (first | ((with_reducible refine gate_dst (N := 2) rfl ?_); refine Short.boxS_ (N := 2) (cs := #[.bool a0_0, .slice A0_1 l0_1.length c0_1]) (t := 25) ?_; intro gb276 hg w9 hbox hb; have BK276 := Aside0.mk (hbox); have GW276 := Aside0.mk ((by rw [hg]; exact (below_size (by repeat (first | (with_reducible first | exact HB.out | apply below_alloc | apply pw_below_drewN | apply below_drew1) | exact HB.out))) : w.heap.size ≤ gb276)); have GE276 := Aside0.mk ((by rw [hg]; exact (below_size (by repeat (first | (with_reducible first | exact HB.out | apply below_alloc | apply pw_below_drewN | apply below_drew1) | exact HB.out))) : w.heap.size ≤ gb276)); replace HB := Aside0.mk (below_step (by repeat (first | (with_reducible first | exact HB.out | apply below_alloc | apply pw_below_drewN | apply below_drew1) | exact HB.out)) hb); clear hb hbox hg) | ((with_reducible refine gate_dst (N := 3) rfl ?_); refine Short.boxS_ (N := 3) (cs := #[.bool a1_0, .slice A1_1 l1_1.length c1_1]) (t := 25) ?_; intro gb277 hg w10 hbox hb; have BK277 := Aside0.mk (hbox); have GW277 := Aside0.mk ((by rw [hg]; exact (below_size HB.out) : w.heap.size ≤ gb277)); have GE277 := Aside0.mk ((by rw [hg]; exact (below_size HB.out) : w.heap.size ≤ gb277)); replace HB := Aside0.mk (below_step HB.out hb); have NB276_277 := Short.ltA_ hg BK276; have NB277_276 := Short.gtA_ hg BK276; replace BK276 := Aside0.mk (blk_below BK276.out hb); clear hb hbox hg) | ((with_reducible refine gate_dst (N := 4) rfl ?_); refine Short.boxS_ (N := 4) (cs := #[.bool false, .slice none 0 0]) (t := 25) ?_; intro gb278 hg w11 hbox hb; have BK278 := Aside0.mk (hbox); have GW278 := Aside0.mk ((by rw [hg]; exact (below_size HB.out) : w.heap.size ≤ gb278)); have GE278 := Aside0.mk ((by rw [hg]; exact (below_size HB.out) : w.heap.size ≤ gb278)); replace HB := Aside0.mk (below_step HB.out hb); have NB276_278 := Short.ltA_ hg BK276; have NB278_276 := Short.gtA_ hg BK276; replace BK276 := Aside0.mk (blk_below BK276.out hb); have NB277_278 := Short.ltA_ hg BK277; have NB278_277 := Short.gtA_ hg BK277; replace BK277 := Aside0.mk (blk_below BK277.out hb); clear hb hbox hg))
  replace BK276 := Aside0.mk (blk_drew BK276.out)
  replace BK277 := Aside0.mk (blk_drew BK277.out)
  replace BK278 := Aside0.mk (blk_drew BK278.out)
  replace HB := Aside0.mk (below_drew1 HB.out)
  refine start_ (n := 7) (S := fun w' => w'.cell? ⟨gb276, 0, none⟩ = some (.bool a0_0) ∧ w'.cell? ⟨gb276, 1, none⟩ = some (.slice A0_1 l0_1.length c0_1) ∧ w'.cell? ⟨gb277, 0, none⟩ = some (.bool a1_0) ∧ w'.cell? ⟨gb277, 1, none⟩ = some (.slice A1_1 l1_1.length c1_1)) (ds := []) #[false, false, false, false, false, false, false] (by kernel_rfl) rfl rfl ⟨(blk_cell BK276.out 0).trans rfl, (blk_cell BK276.out 1).trans rfl, (blk_cell BK277.out 0).trans rfl, (blk_cell BK277.out 1).trans rfl⟩ (fun hHeld => ?_)
  generalize w11.drew = w12 at BK276 BK277 BK278 HB hHeld ⊢
  refine Short.takeS_ (i := 0) (N := some 9) #[true, false, false, false, false, false, false] (by kernel_rfl) hHeld ?_
  refine Short.takeS_ (i := 3) (N := some 12) #[true, false, false, true, false, false, false] (by kernel_rfl) hHeld ?_
  refine one_ (i := 1) (N := some 10) #[true, true, false, true, false, false, false] rfl rfl (by kernel_rfl) (by decide) (fun K hK => ?_)
  refine Short.goesD_ Try.func49 #[.agg #[.bool a0_0, .slice A0_1 l0_1.length c0_1]] ?_
  with_reducible refine (whole_Sign.calls k a0_0 _ _ l0_1 t279 _ (Kd.C_below HR0_1.out HB.out) HC0_1.out A3.out).mono ?_
  rintro e w13 ⟨rfl, hb⟩
  refine ⟨_, rfl, ?_⟩
  replace BK276 := Aside0.mk (blk_below BK276.out hb)
  replace BK277 := Aside0.mk (blk_below BK277.out hb)
  replace BK278 := Aside0.mk (blk_below BK278.out hb)
  replace HB := Aside0.mk (below_step HB.out hb)
  (try clear hb)
  refine hK.out _ _ ⟨(blk_cell BK276.out 0).trans rfl, (blk_cell BK276.out 1).trans rfl, (blk_cell BK277.out 0).trans rfl, (blk_cell BK277.out 1).trans rfl⟩ (fun hHeld => ?_)
  clear hK K
  refine Short.normS_ ?_
  refine Short.pureS_ (i := 2) (N := some 11) #[true, true, true, true, false, false, false] (by kernel_rfl) ?_
  refine one_ (i := 4) (N := some 13) #[true, true, true, true, true, false, false] rfl rfl (by kernel_rfl) (by decide) (fun K hK => ?_)
  refine Short.goesD_ Try.func49 #[.agg #[.bool a1_0, .slice A1_1 l1_1.length c1_1]] ?_
  with_reducible refine (whole_Sign.calls k a1_0 _ _ l1_1 t280 _ (Kd.C_below HR1_1.out HB.out) HC1_1.out A4.out).mono ?_
  rintro e w14 ⟨rfl, hb⟩
  refine ⟨_, rfl, ?_⟩
  replace BK276 := Aside0.mk (blk_below BK276.out hb)
  replace BK277 := Aside0.mk (blk_below BK277.out hb)
  replace BK278 := Aside0.mk (blk_below BK278.out hb)
  replace HB := Aside0.mk (below_step HB.out hb)
  (try clear hb)
  refine hK.out _ _ ⟨(blk_cell BK276.out 0).trans rfl, (blk_cell BK276.out 1).trans rfl, (blk_cell BK277.out 0).trans rfl, (blk_cell BK277.out 1).trans rfl⟩ (fun hHeld => ?_)
  clear hK K
  refine Short.normS_ ?_
  refine Short.pureS_ (i := 5) (N := some 14) #[true, true, true, true, true, true, false] (by kernel_rfl) ?_
  refine Short.pureS_ (i := 6) (N := some 15) #[true, true, true, true, true, true, true] (by kernel_rfl) ?_
  refine done_ (by kernel_rfl) ?_
  try go_wp2
  replace BK276 := Aside0.mk (blk_drew BK276.out)
  replace BK277 := Aside0.mk (blk_drew BK277.out)
  replace BK278 := Aside0.mk (blk_drew BK278.out)
  replace HB := Aside0.mk (below_drew1 HB.out)
  refine start_ (n := 10) (S := fun w' => w'.cell? ⟨gb276, 0, none⟩ = some (.bool a0_0) ∧ w'.cell? ⟨gb276, 1, none⟩ = some (.slice A0_1 l0_1.length c0_1) ∧ w'.cell? ⟨gb277, 0, none⟩ = some (.bool a1_0) ∧ w'.cell? ⟨gb277, 1, none⟩ = some (.slice A1_1 l1_1.length c1_1)) (ds := []) #[false, false, false, false, false, false, false, false, false, false] (by kernel_rfl) rfl rfl ⟨(blk_cell BK276.out 0).trans rfl, (blk_cell BK276.out 1).trans rfl, (blk_cell BK277.out 0).trans rfl, (blk_cell BK277.out 1).trans rfl⟩ (fun hHeld => ?_); refine with_tabW whole_Add.tab2 whole_Add.bits2 (fun HT_ HW_ => ?_)
  generalize w14.drew = w15 at BK276 BK277 BK278 HB hHeld ⊢
  refine Short.pureS_ (i := 3) (N := some 19) #[false, false, false, true, false, false, false, false, false, false] (any_of HT_.out (by kernel_rfl)) ?_
  refine Short.pureS_ (i := 5) (N := some 21) #[false, false, false, true, false, true, false, false, false, false] (any_of HT_.out (by kernel_rfl)) ?_
  refine Short.takeS_ (i := 0) (N := some 16) #[true, false, false, true, false, true, false, false, false, false] (take_ofW HT_.out HW_.out (by kernel_rfl)) hHeld ?_
  refine Short.takeS_ (i := 4) (N := some 20) #[true, false, false, true, true, true, false, false, false, false] (take_ofW HT_.out HW_.out (by kernel_rfl)) hHeld ?_
  refine Short.takeS_ (i := 6) (N := some 22) #[true, false, false, true, true, true, true, false, false, false] (take_ofW HT_.out HW_.out (by kernel_rfl)) hHeld ?_
  refine one_ (i := 1) (N := some 17) #[true, true, false, true, true, true, true, false, false, false] rfl rfl (one_of HT_.out (by kernel_rfl)) (by decide) (fun K hK => ?_)
  refine Short.goesD_ Try.func49 #[.agg #[.bool a0_0, .slice A0_1 l0_1.length c0_1]] ?_
  with_reducible refine (whole_Sign.calls k a0_0 _ _ l0_1 t281 _ (Kd.C_below HR0_1.out HB.out) HC0_1.out A6.out).mono ?_
  rintro e w16 ⟨rfl, hb⟩
  refine ⟨_, rfl, ?_⟩
  replace BK276 := Aside0.mk (blk_below BK276.out hb)
  replace BK277 := Aside0.mk (blk_below BK277.out hb)
  replace BK278 := Aside0.mk (blk_below BK278.out hb)
  replace HB := Aside0.mk (below_step HB.out hb)
  (try clear hb)
  refine hK.out _ _ ⟨(blk_cell BK276.out 0).trans rfl, (blk_cell BK276.out 1).trans rfl, (blk_cell BK277.out 0).trans rfl, (blk_cell BK277.out 1).trans rfl⟩ (fun hHeld => ?_)
  clear hK K
  refine Short.normS_ ?_
  refine Short.pureS_ (i := 2) (N := some 18) #[true, true, true, true, true, true, true, false, false, false] (any_of HT_.out (by kernel_rfl)) ?_
  refine one_ (i := 7) (N := some 23) #[true, true, true, true, true, true, true, true, false, false] rfl rfl (one_of HT_.out (by kernel_rfl)) (by decide) (fun K hK => ?_)
  refine Short.goesD_ Try.func75 #[.slice A0_1 l0_1.length c0_1, .slice A1_1 l1_1.length c1_1] ?_
  with_reducible refine (nat_Add.calls k _ _ l0_1 _ _ l1_1 t282 _ (Kd.C_below HR0_1.out HB.out) HC0_1.out (Kd.C_below HR1_1.out HB.out) HC1_1.out A7.out).mono ?_
  rintro e w17 ⟨v283, rfl, ho0, hb⟩
  refine ⟨_, rfl, ?_⟩
  have HO284 := Aside0.mk (Kd.R_lower ho0 (below_size HB.out))
  replace BK276 := Aside0.mk (blk_below BK276.out hb)
  replace BK277 := Aside0.mk (blk_below BK277.out hb)
  replace BK278 := Aside0.mk (blk_below BK278.out hb)
  replace HB := Aside0.mk (below_step HB.out hb)
  (try clear hb)
  (try clear ho0)
  obtain ⟨Ao18, co18, eo18⟩ := Kd.R_slice HO284.out
  (first | subst eo18 | (injection eo18 with f1_ f2_ f3_; have f4_ := f1_.symm; have f5_ := f3_.symm; clear f1_ f2_ f3_; subst f4_; subst f5_))
  refine hK.out _ _ ⟨(blk_cell BK276.out 0).trans rfl, (blk_cell BK276.out 1).trans rfl, (blk_cell BK277.out 0).trans rfl, (blk_cell BK277.out 1).trans rfl⟩ (fun hHeld => ?_)
  clear hK K
  refine Short.normS_ ?_
  refine one_ (i := 8) (N := some 24) #[true, true, true, true, true, true, true, true, true, false] rfl rfl (one_of HT_.out (by kernel_rfl)) (by decide) (fun K hK => ?_)
  refine Short.goesD_ Try.func45 #[.bool (decide (t281 < 0)), .slice Ao18 t282.length co18] ?_
  with_reducible refine (whole_Make.calls k (decide (t281 < 0)) _ _ t282 t285 t286 _ ((Kd.R_reads' HO284.out).2.2) ((Kd.R_reads' HO284.out).2.1) A8.out).mono ?_
  rintro e w19 ⟨v287, rfl, ho0, hb⟩
  refine ⟨_, rfl, ?_⟩
  have HO288 := Aside0.mk (Kd.R_lower (Kd.R_new' ho0 (Kd.R_lt HO284.out)) (below_size HB.out))
  replace HO284 := Aside0.mk (Kd.R_elder' HO284.out (Kd.R_base ho0) hb)
  replace BK276 := Aside0.mk (blk_below BK276.out hb)
  replace BK277 := Aside0.mk (blk_below BK277.out hb)
  replace BK278 := Aside0.mk (blk_below BK278.out hb)
  replace HB := Aside0.mk (below_step HB.out hb)
  (try clear hb)
  (try clear ho0)
  obtain ⟨Ao21, co21, eo21⟩ := Kd.R_slice HO288.out
  (first | subst eo21 | (injection eo21 with f1_ f2_ f3_; have f4_ := f1_.symm; have f5_ := f3_.symm; clear f1_ f2_ f3_; subst f4_; subst f5_))
  refine hK.out _ _ ⟨(blk_cell BK276.out 0).trans rfl, (blk_cell BK276.out 1).trans rfl, (blk_cell BK277.out 0).trans rfl, (blk_cell BK277.out 1).trans rfl⟩ (fun hHeld => ?_)
  clear hK K
  refine Short.normS_ ?_
  refine one_ (i := 9) (N := none) #[true, true, true, true, true, true, true, true, true, true] rfl rfl (one_of HT_.out (by kernel_rfl)) (by decide) (fun K hK => ?_)
  have hs20 : w19.cell? ⟨gb278, 0, none⟩ = some (.bool false) := (blk_cell BK278.out 0).trans rfl
  have hfs20 := blk_frozen BK278.out 0
  have hns20_0 := NB276_278.out
  have hns20_1 := NB277_278.out
  have hms20_0 := NB278_276.out
  have hms20_1 := NB278_277.out
  have hs22 : w19.cell? ⟨gb278, 1, none⟩ = some (.slice none 0 0) := (blk_cell BK278.out 1).trans rfl
  have hfs22 := blk_frozen BK278.out 1
  have hns22_0 := NB276_278.out
  have hns22_1 := NB277_278.out
  have hms22_0 := NB278_276.out
  have hms22_1 := NB278_277.out
  refine skip_ (w1 := ?_) (by rfl) rfl ?_ ?_
  rotate_left
  ·go_simp
   rfl
  refine hK.out _ _ ⟨((cell_far (p := ⟨gb278, _, none⟩) NB276_278.out _).trans (((cell_far (p := ⟨gb278, _, none⟩) NB276_278.out _).trans (hHeld.1)))), ((cell_far (p := ⟨gb278, _, none⟩) NB276_278.out _).trans (((cell_far (p := ⟨gb278, _, none⟩) NB276_278.out _).trans (hHeld.2.1)))), ((cell_far (p := ⟨gb278, _, none⟩) NB277_278.out _).trans (((cell_far (p := ⟨gb278, _, none⟩) NB277_278.out _).trans (hHeld.2.2.1)))), ((cell_far (p := ⟨gb278, _, none⟩) NB277_278.out _).trans (((cell_far (p := ⟨gb278, _, none⟩) NB277_278.out _).trans (hHeld.2.2.2))))⟩ (fun hHeld => ?_)
  clear hK K
  refine done_ (done_of HT_.out (by kernel_rfl)) ?_
  try go_wp2
  refine bodyPost_ret (results_cell_row rfl _ _ gb278 25 #[.bool t285, .slice Ao21 t286.length co21] (0, 0) _ rfl (by (with_reducible repeat (first | refine blk_drewN ?_ _ | refine blk_drew ?_ | refine blk_alloc ?_ _)); refine blk_put (cs := #[.bool t285, .slice none 0 0]) ?_ 1 _ rfl; (with_reducible repeat (first | refine blk_drewN ?_ _ | refine blk_drew ?_ | refine blk_alloc ?_ _)); refine blk_put (cs := #[.bool false, .slice none 0 0]) ?_ 0 _ rfl; (with_reducible repeat (first | refine blk_drewN ?_ _ | refine blk_drew ?_ | refine blk_alloc ?_ _)); exact BK278.out) Try.underlying25 rfl (by kernel_rfl)) rfl ?_
  exact ⟨_, by rfl, by (with_reducible repeat (first | apply Kd.R_alloc | apply Kd.R_drewN | apply Kd.R_drew)); exact Kd.R_mono (Kd.R_far (p := ⟨gb278, 1, none⟩) (Kd.R_far (p := ⟨gb278, 0, none⟩) (Kd.R_types HO288.out BK278.out (by decide)) (fun _ hk => hk.2) (.bool t285)) (fun _ hk => hk.2) (.slice Ao21 t286.length co21)) (fun _ hk => trivial), by repeat (first | (with_reducible first | exact HB.out | apply below_alloc | apply pw_below_drewN | apply below_drew1 | refine below_set ?_ GE276.out | refine below_set ?_ GE277.out | refine below_set ?_ GE278.out) | exact HB.out)⟩
 ·rw [if_neg c5] at H
  have c5b0 : ((decide (t279 < 0)) == (decide (t280 < 0))) = false := by simpa using c5
  (try (have c5b1 : decide ((decide (t279 < 0)) = (decide (t280 < 0))) = false := by simpa using c5))
  (try (have c5b2 : ((decide (t279 < 0)) == (decide (t280 < 0))) = false := by simpa using c5))
  (try (have c5b3 : ¬ ((decide (t279 < 0)) = (decide (t280 < 0))) := by simpa using c5))
  clear c5
  replace H := Option.bind_eq_some_iff.mp H
  obtain ⟨⟨t289, t290⟩, A230, H⟩ := H
  try dsimp only at H
  have A23 := Aside0.mk A230
  clear A230
  by_cases c24 : t290 = true
  ·subst c24
   have H1 : ((whole_Sign.f k a0_0 l0_1).bind fun t293 => ((whole_Make.f k (decide (t293 < 0)) t289).bind fun bt294 => (some (bt294.1, bt294.2)))) = some (r1, r2) := by rw [if_pos rfl] at H; exact H
   clear H
   have H := H1
   clear H1
   replace H := Option.bind_eq_some_iff.mp H
   obtain ⟨t293, A250, H⟩ := H
   try dsimp only at H
   have A25 := Aside0.mk A250
   clear A250
   replace H := Option.bind_eq_some_iff.mp H
   obtain ⟨⟨t294, t295⟩, A260, H⟩ := H
   replace H : (some (t294, t295)) = some (r1, r2) := H
   have A26 := Aside0.mk A260
   clear A260
   simp only [Option.some.injEq, Prod.mk.injEq] at H
   obtain ⟨rfl, rfl⟩ := H
   go_enter Try.func64, Try.ntmps64
   try go_wp2_with (first | ((with_reducible refine gate_dst (N := 2) rfl ?_); refine Short.boxS_ (N := 2) (cs := #[.bool a0_0, .slice A0_1 l0_1.length c0_1]) (t := 25) ?_; intro gb276 hg w27 hbox hb; have BK276 := Aside0.mk (hbox); have GW276 := Aside0.mk ((by rw [hg]; exact (below_size (by repeat (first | (with_reducible first | exact HB.out | apply below_alloc | apply pw_below_drewN | apply below_drew1) | exact HB.out))) : w.heap.size ≤ gb276)); have GE276 := Aside0.mk ((by rw [hg]; exact (below_size (by repeat (first | (with_reducible first | exact HB.out | apply below_alloc | apply pw_below_drewN | apply below_drew1) | exact HB.out))) : w.heap.size ≤ gb276)); replace HB := Aside0.mk (below_step (by repeat (first | (with_reducible first | exact HB.out | apply below_alloc | apply pw_below_drewN | apply below_drew1) | exact HB.out)) hb); clear hb hbox hg) | ((with_reducible refine gate_dst (N := 3) rfl ?_); refine Short.boxS_ (N := 3) (cs := #[.bool a1_0, .slice A1_1 l1_1.length c1_1]) (t := 25) ?_; intro gb277 hg w28 hbox hb; have BK277 := Aside0.mk (hbox); have GW277 := Aside0.mk ((by rw [hg]; exact (below_size HB.out) : w.heap.size ≤ gb277)); have GE277 := Aside0.mk ((by rw [hg]; exact (below_size HB.out) : w.heap.size ≤ gb277)); replace HB := Aside0.mk (below_step HB.out hb); have NB276_277 := Short.ltA_ hg BK276; have NB277_276 := Short.gtA_ hg BK276; replace BK276 := Aside0.mk (blk_below BK276.out hb); clear hb hbox hg) | ((with_reducible refine gate_dst (N := 4) rfl ?_); refine Short.boxS_ (N := 4) (cs := #[.bool false, .slice none 0 0]) (t := 25) ?_; intro gb278 hg w29 hbox hb; have BK278 := Aside0.mk (hbox); have GW278 := Aside0.mk ((by rw [hg]; exact (below_size HB.out) : w.heap.size ≤ gb278)); have GE278 := Aside0.mk ((by rw [hg]; exact (below_size HB.out) : w.heap.size ≤ gb278)); replace HB := Aside0.mk (below_step HB.out hb); have NB276_278 := Short.ltA_ hg BK276; have NB278_276 := Short.gtA_ hg BK276; replace BK276 := Aside0.mk (blk_below BK276.out hb); have NB277_278 := Short.ltA_ hg BK277; have NB278_277 := Short.gtA_ hg BK277; replace BK277 := Aside0.mk (blk_below BK277.out hb); clear hb hbox hg))
   replace BK276 := Aside0.mk (blk_drew BK276.out)
   replace BK277 := Aside0.mk (blk_drew BK277.out)
   replace BK278 := Aside0.mk (blk_drew BK278.out)
   replace HB := Aside0.mk (below_drew1 HB.out)
   refine start_ (n := 7) (S := fun w' => w'.cell? ⟨gb276, 0, none⟩ = some (.bool a0_0) ∧ w'.cell? ⟨gb276, 1, none⟩ = some (.slice A0_1 l0_1.length c0_1) ∧ w'.cell? ⟨gb277, 0, none⟩ = some (.bool a1_0) ∧ w'.cell? ⟨gb277, 1, none⟩ = some (.slice A1_1 l1_1.length c1_1)) (ds := []) #[false, false, false, false, false, false, false] (by kernel_rfl) rfl rfl ⟨(blk_cell BK276.out 0).trans rfl, (blk_cell BK276.out 1).trans rfl, (blk_cell BK277.out 0).trans rfl, (blk_cell BK277.out 1).trans rfl⟩ (fun hHeld => ?_)
   generalize w29.drew = w30 at BK276 BK277 BK278 HB hHeld ⊢
   refine Short.takeS_ (i := 0) (N := some 9) #[true, false, false, false, false, false, false] (by kernel_rfl) hHeld ?_
   refine Short.takeS_ (i := 3) (N := some 12) #[true, false, false, true, false, false, false] (by kernel_rfl) hHeld ?_
   refine one_ (i := 1) (N := some 10) #[true, true, false, true, false, false, false] rfl rfl (by kernel_rfl) (by decide) (fun K hK => ?_)
   refine Short.goesD_ Try.func49 #[.agg #[.bool a0_0, .slice A0_1 l0_1.length c0_1]] ?_
   with_reducible refine (whole_Sign.calls k a0_0 _ _ l0_1 t279 _ (Kd.C_below HR0_1.out HB.out) HC0_1.out A3.out).mono ?_
   rintro e w31 ⟨rfl, hb⟩
   refine ⟨_, rfl, ?_⟩
   replace BK276 := Aside0.mk (blk_below BK276.out hb)
   replace BK277 := Aside0.mk (blk_below BK277.out hb)
   replace BK278 := Aside0.mk (blk_below BK278.out hb)
   replace HB := Aside0.mk (below_step HB.out hb)
   (try clear hb)
   refine hK.out _ _ ⟨(blk_cell BK276.out 0).trans rfl, (blk_cell BK276.out 1).trans rfl, (blk_cell BK277.out 0).trans rfl, (blk_cell BK277.out 1).trans rfl⟩ (fun hHeld => ?_)
   clear hK K
   refine Short.normS_ ?_
   refine Short.pureS_ (i := 2) (N := some 11) #[true, true, true, true, false, false, false] (by kernel_rfl) ?_
   refine one_ (i := 4) (N := some 13) #[true, true, true, true, true, false, false] rfl rfl (by kernel_rfl) (by decide) (fun K hK => ?_)
   refine Short.goesD_ Try.func49 #[.agg #[.bool a1_0, .slice A1_1 l1_1.length c1_1]] ?_
   with_reducible refine (whole_Sign.calls k a1_0 _ _ l1_1 t280 _ (Kd.C_below HR1_1.out HB.out) HC1_1.out A4.out).mono ?_
   rintro e w32 ⟨rfl, hb⟩
   refine ⟨_, rfl, ?_⟩
   replace BK276 := Aside0.mk (blk_below BK276.out hb)
   replace BK277 := Aside0.mk (blk_below BK277.out hb)
   replace BK278 := Aside0.mk (blk_below BK278.out hb)
   replace HB := Aside0.mk (below_step HB.out hb)
   (try clear hb)
   refine hK.out _ _ ⟨(blk_cell BK276.out 0).trans rfl, (blk_cell BK276.out 1).trans rfl, (blk_cell BK277.out 0).trans rfl, (blk_cell BK277.out 1).trans rfl⟩ (fun hHeld => ?_)
   clear hK K
   refine Short.normS_ ?_
   refine Short.pureS_ (i := 5) (N := some 14) #[true, true, true, true, true, true, false] (by kernel_rfl) ?_
   refine Short.pureS_ (i := 6) (N := some 15) #[true, true, true, true, true, true, true] (by kernel_rfl) ?_
   refine done_ (by kernel_rfl) ?_
   have hnb33 := NB276_277.out
   have hnc33 := NB277_276.out
   have hnb34 := NB276_278.out
   have hnc34 := NB278_276.out
   have hcz35_0 : w32.cell? ⟨gb276, 0, none⟩ = some (.bool a0_0) := (blk_cell BK276.out 0).trans rfl
   have hcz35_1 : w32.cell? ⟨gb276, 1, none⟩ = some (.slice A0_1 l0_1.length c0_1) := (blk_cell BK276.out 1).trans rfl
   have hfz35_0 := blk_frozen BK276.out 0
   have hfz35_1 := blk_frozen BK276.out 1
   have hnb36 := NB277_278.out
   have hnc36 := NB278_277.out
   have hcz37_0 : w32.cell? ⟨gb277, 0, none⟩ = some (.bool a1_0) := (blk_cell BK277.out 0).trans rfl
   have hcz37_1 : w32.cell? ⟨gb277, 1, none⟩ = some (.slice A1_1 l1_1.length c1_1) := (blk_cell BK277.out 1).trans rfl
   have hfz37_0 := blk_frozen BK277.out 0
   have hfz37_1 := blk_frozen BK277.out 1
   try go_wp2_with (first | ((with_reducible refine gate_callee (f := 88) rfl ?_); refine Short.goesS_ (some 30) Try.func88 #[.slice A0_1 l0_1.length c0_1, .slice A1_1 l1_1.length c1_1] ?_; (with_reducible refine (nat_Sub.calls k _ _ l0_1 _ _ l1_1 t289 true _ (Kd.C_below HR0_1.out HB.out) HC0_1.out (Kd.C_below HR1_1.out HB.out) HC1_1.out A23.out).mono ?_); rintro e w38 ⟨v291, rfl, ho0, hb⟩; refine ⟨_, rfl, ?_⟩; have HO292 := Aside0.mk (Kd.R_lower ho0 (below_size HB.out)); replace BK276 := Aside0.mk (blk_below BK276.out hb); replace BK277 := Aside0.mk (blk_below BK277.out hb); replace BK278 := Aside0.mk (blk_below BK278.out hb); replace HB := Aside0.mk (below_step HB.out hb); (try clear hb); (try clear ho0); have hcz39_0 : w38.cell? ⟨gb276, 0, none⟩ = some (.bool a0_0) := (blk_cell BK276.out 0).trans rfl; have hcz39_1 : w38.cell? ⟨gb276, 1, none⟩ = some (.slice A0_1 l0_1.length c0_1) := (blk_cell BK276.out 1).trans rfl; have hfz39_0 := blk_frozen BK276.out 0; have hfz39_1 := blk_frozen BK276.out 1) | ((with_reducible refine gate_callee (f := 49) rfl ?_); refine Short.goesS_ (some 35) Try.func49 #[.agg #[.bool a0_0, .slice A0_1 l0_1.length c0_1]] ?_; (with_reducible refine (whole_Sign.calls k a0_0 _ _ l0_1 t293 _ (Kd.C_below HR0_1.out HB.out) HC0_1.out A25.out).mono ?_); rintro e w40 ⟨rfl, hb⟩; refine ⟨_, rfl, ?_⟩; replace HO292 := Aside0.mk (Kd.R_below HO292.out hb); replace BK276 := Aside0.mk (blk_below BK276.out hb); replace BK277 := Aside0.mk (blk_below BK277.out hb); replace BK278 := Aside0.mk (blk_below BK278.out hb); replace HB := Aside0.mk (below_step HB.out hb); (try clear hb); obtain ⟨Ao41, co41, eo41⟩ := Kd.R_slice HO292.out; subst eo41) | ((with_reducible refine gate_callee (f := 45) rfl ?_); refine Short.goesS_ (some 38) Try.func45 #[.bool (decide (t293 < 0)), .slice Ao41 t289.length co41] ?_; (with_reducible refine (whole_Make.calls k (decide (t293 < 0)) _ _ t289 t294 t295 _ ((Kd.R_reads' HO292.out).2.2) ((Kd.R_reads' HO292.out).2.1) A26.out).mono ?_); rintro e w42 ⟨v296, rfl, ho0, hb⟩; refine ⟨_, rfl, ?_⟩; have HO297 := Aside0.mk (Kd.R_lower (Kd.R_new' ho0 (Kd.R_lt HO292.out)) (below_size HB.out)); replace HO292 := Aside0.mk (Kd.R_elder' HO292.out (Kd.R_base ho0) hb); replace BK276 := Aside0.mk (blk_below BK276.out hb); replace BK277 := Aside0.mk (blk_below BK277.out hb); replace BK278 := Aside0.mk (blk_below BK278.out hb); replace HB := Aside0.mk (below_step HB.out hb); (try clear hb); (try clear ho0); have hcz43_0 : w42.cell? ⟨gb278, 0, none⟩ = some (.bool false) := (blk_cell BK278.out 0).trans rfl; have hcz43_1 : w42.cell? ⟨gb278, 1, none⟩ = some (.slice none 0 0) := (blk_cell BK278.out 1).trans rfl; have hfz43_0 := blk_frozen BK278.out 0; have hfz43_1 := blk_frozen BK278.out 1; obtain ⟨Ao44, co44, eo44⟩ := Kd.R_slice HO297.out; subst eo44))
   refine bodyPost_ret (results_cell_row rfl _ _ gb278 25 #[.bool t294, .slice Ao44 t295.length co44] (0, 0) _ rfl (by (with_reducible repeat (first | refine blk_drewN ?_ _ | refine blk_drew ?_ | refine blk_alloc ?_ _)); refine blk_put (cs := #[.bool t294, .slice none 0 0]) ?_ 1 _ rfl; (with_reducible repeat (first | refine blk_drewN ?_ _ | refine blk_drew ?_ | refine blk_alloc ?_ _)); refine blk_put (cs := #[.bool false, .slice none 0 0]) ?_ 0 _ rfl; (with_reducible repeat (first | refine blk_drewN ?_ _ | refine blk_drew ?_ | refine blk_alloc ?_ _)); exact BK278.out) Try.underlying25 rfl (by kernel_rfl)) rfl ?_
   exact ⟨_, by rfl, by (with_reducible repeat (first | apply Kd.R_alloc | apply Kd.R_drewN | apply Kd.R_drew)); exact Kd.R_mono (Kd.R_far (p := ⟨gb278, 1, none⟩) (Kd.R_far (p := ⟨gb278, 0, none⟩) (Kd.R_types HO297.out BK278.out (by decide)) (fun _ hk => hk.2) (.bool t294)) (fun _ hk => hk.2) (.slice Ao44 t295.length co44)) (fun _ hk => trivial), by repeat (first | (with_reducible first | exact HB.out | apply below_alloc | apply pw_below_drewN | apply below_drew1 | refine below_set ?_ GE276.out | refine below_set ?_ GE277.out | refine below_set ?_ GE278.out) | exact HB.out)⟩
  ·replace c24 := Bool.eq_false_iff.mpr c24
   subst c24
   have H1 : ((nat_Sub.f k l1_1 l0_1).bind fun bt298 => ((whole_Sign.f k a1_0 l1_1).bind fun t302 => ((whole_Make.f k (decide (t302 < 0)) bt298.1).bind fun bt303 => (some (bt303.1, bt303.2))))) = some (r1, r2) := by rw [if_neg (show ¬ (false = true) by decide)] at H; exact H
   clear H
   have H := H1
   clear H1
   replace H := Option.bind_eq_some_iff.mp H
   obtain ⟨⟨t298, t299⟩, A450, H⟩ := H
   try dsimp only at H
   have A45 := Aside0.mk A450
   clear A450
   replace H := Option.bind_eq_some_iff.mp H
   obtain ⟨t302, A460, H⟩ := H
   try dsimp only at H
   have A46 := Aside0.mk A460
   clear A460
   replace H := Option.bind_eq_some_iff.mp H
   obtain ⟨⟨t303, t304⟩, A470, H⟩ := H
   replace H : (some (t303, t304)) = some (r1, r2) := H
   have A47 := Aside0.mk A470
   clear A470
   simp only [Option.some.injEq, Prod.mk.injEq] at H
   obtain ⟨rfl, rfl⟩ := H
   go_enter Try.func64, Try.ntmps64
   try go_wp2_with (first | ((with_reducible refine gate_dst (N := 2) rfl ?_); refine Short.boxS_ (N := 2) (cs := #[.bool a0_0, .slice A0_1 l0_1.length c0_1]) (t := 25) ?_; intro gb276 hg w48 hbox hb; have BK276 := Aside0.mk (hbox); have GW276 := Aside0.mk ((by rw [hg]; exact (below_size (by repeat (first | (with_reducible first | exact HB.out | apply below_alloc | apply pw_below_drewN | apply below_drew1) | exact HB.out))) : w.heap.size ≤ gb276)); have GE276 := Aside0.mk ((by rw [hg]; exact (below_size (by repeat (first | (with_reducible first | exact HB.out | apply below_alloc | apply pw_below_drewN | apply below_drew1) | exact HB.out))) : w.heap.size ≤ gb276)); replace HB := Aside0.mk (below_step (by repeat (first | (with_reducible first | exact HB.out | apply below_alloc | apply pw_below_drewN | apply below_drew1) | exact HB.out)) hb); clear hb hbox hg) | ((with_reducible refine gate_dst (N := 3) rfl ?_); refine Short.boxS_ (N := 3) (cs := #[.bool a1_0, .slice A1_1 l1_1.length c1_1]) (t := 25) ?_; intro gb277 hg w49 hbox hb; have BK277 := Aside0.mk (hbox); have GW277 := Aside0.mk ((by rw [hg]; exact (below_size HB.out) : w.heap.size ≤ gb277)); have GE277 := Aside0.mk ((by rw [hg]; exact (below_size HB.out) : w.heap.size ≤ gb277)); replace HB := Aside0.mk (below_step HB.out hb); have NB276_277 := Short.ltA_ hg BK276; have NB277_276 := Short.gtA_ hg BK276; replace BK276 := Aside0.mk (blk_below BK276.out hb); clear hb hbox hg) | ((with_reducible refine gate_dst (N := 4) rfl ?_); refine Short.boxS_ (N := 4) (cs := #[.bool false, .slice none 0 0]) (t := 25) ?_; intro gb278 hg w50 hbox hb; have BK278 := Aside0.mk (hbox); have GW278 := Aside0.mk ((by rw [hg]; exact (below_size HB.out) : w.heap.size ≤ gb278)); have GE278 := Aside0.mk ((by rw [hg]; exact (below_size HB.out) : w.heap.size ≤ gb278)); replace HB := Aside0.mk (below_step HB.out hb); have NB276_278 := Short.ltA_ hg BK276; have NB278_276 := Short.gtA_ hg BK276; replace BK276 := Aside0.mk (blk_below BK276.out hb); have NB277_278 := Short.ltA_ hg BK277; have NB278_277 := Short.gtA_ hg BK277; replace BK277 := Aside0.mk (blk_below BK277.out hb); clear hb hbox hg))
   replace BK276 := Aside0.mk (blk_drew BK276.out)
   replace BK277 := Aside0.mk (blk_drew BK277.out)
   replace BK278 := Aside0.mk (blk_drew BK278.out)
   replace HB := Aside0.mk (below_drew1 HB.out)
   refine start_ (n := 7) (S := fun w' => w'.cell? ⟨gb276, 0, none⟩ = some (.bool a0_0) ∧ w'.cell? ⟨gb276, 1, none⟩ = some (.slice A0_1 l0_1.length c0_1) ∧ w'.cell? ⟨gb277, 0, none⟩ = some (.bool a1_0) ∧ w'.cell? ⟨gb277, 1, none⟩ = some (.slice A1_1 l1_1.length c1_1)) (ds := []) #[false, false, false, false, false, false, false] (by kernel_rfl) rfl rfl ⟨(blk_cell BK276.out 0).trans rfl, (blk_cell BK276.out 1).trans rfl, (blk_cell BK277.out 0).trans rfl, (blk_cell BK277.out 1).trans rfl⟩ (fun hHeld => ?_)
   generalize w50.drew = w51 at BK276 BK277 BK278 HB hHeld ⊢
   refine Short.takeS_ (i := 0) (N := some 9) #[true, false, false, false, false, false, false] (by kernel_rfl) hHeld ?_
   refine Short.takeS_ (i := 3) (N := some 12) #[true, false, false, true, false, false, false] (by kernel_rfl) hHeld ?_
   refine one_ (i := 1) (N := some 10) #[true, true, false, true, false, false, false] rfl rfl (by kernel_rfl) (by decide) (fun K hK => ?_)
   refine Short.goesD_ Try.func49 #[.agg #[.bool a0_0, .slice A0_1 l0_1.length c0_1]] ?_
   with_reducible refine (whole_Sign.calls k a0_0 _ _ l0_1 t279 _ (Kd.C_below HR0_1.out HB.out) HC0_1.out A3.out).mono ?_
   rintro e w52 ⟨rfl, hb⟩
   refine ⟨_, rfl, ?_⟩
   replace BK276 := Aside0.mk (blk_below BK276.out hb)
   replace BK277 := Aside0.mk (blk_below BK277.out hb)
   replace BK278 := Aside0.mk (blk_below BK278.out hb)
   replace HB := Aside0.mk (below_step HB.out hb)
   (try clear hb)
   refine hK.out _ _ ⟨(blk_cell BK276.out 0).trans rfl, (blk_cell BK276.out 1).trans rfl, (blk_cell BK277.out 0).trans rfl, (blk_cell BK277.out 1).trans rfl⟩ (fun hHeld => ?_)
   clear hK K
   refine Short.normS_ ?_
   refine Short.pureS_ (i := 2) (N := some 11) #[true, true, true, true, false, false, false] (by kernel_rfl) ?_
   refine one_ (i := 4) (N := some 13) #[true, true, true, true, true, false, false] rfl rfl (by kernel_rfl) (by decide) (fun K hK => ?_)
   refine Short.goesD_ Try.func49 #[.agg #[.bool a1_0, .slice A1_1 l1_1.length c1_1]] ?_
   with_reducible refine (whole_Sign.calls k a1_0 _ _ l1_1 t280 _ (Kd.C_below HR1_1.out HB.out) HC1_1.out A4.out).mono ?_
   rintro e w53 ⟨rfl, hb⟩
   refine ⟨_, rfl, ?_⟩
   replace BK276 := Aside0.mk (blk_below BK276.out hb)
   replace BK277 := Aside0.mk (blk_below BK277.out hb)
   replace BK278 := Aside0.mk (blk_below BK278.out hb)
   replace HB := Aside0.mk (below_step HB.out hb)
   (try clear hb)
   refine hK.out _ _ ⟨(blk_cell BK276.out 0).trans rfl, (blk_cell BK276.out 1).trans rfl, (blk_cell BK277.out 0).trans rfl, (blk_cell BK277.out 1).trans rfl⟩ (fun hHeld => ?_)
   clear hK K
   refine Short.normS_ ?_
   refine Short.pureS_ (i := 5) (N := some 14) #[true, true, true, true, true, true, false] (by kernel_rfl) ?_
   refine Short.pureS_ (i := 6) (N := some 15) #[true, true, true, true, true, true, true] (by kernel_rfl) ?_
   refine done_ (by kernel_rfl) ?_
   have hnb54 := NB276_277.out
   have hnc54 := NB277_276.out
   have hnb55 := NB276_278.out
   have hnc55 := NB278_276.out
   have hcz56_0 : w53.cell? ⟨gb276, 0, none⟩ = some (.bool a0_0) := (blk_cell BK276.out 0).trans rfl
   have hcz56_1 : w53.cell? ⟨gb276, 1, none⟩ = some (.slice A0_1 l0_1.length c0_1) := (blk_cell BK276.out 1).trans rfl
   have hfz56_0 := blk_frozen BK276.out 0
   have hfz56_1 := blk_frozen BK276.out 1
   have hnb57 := NB277_278.out
   have hnc57 := NB278_277.out
   have hcz58_0 : w53.cell? ⟨gb277, 0, none⟩ = some (.bool a1_0) := (blk_cell BK277.out 0).trans rfl
   have hcz58_1 : w53.cell? ⟨gb277, 1, none⟩ = some (.slice A1_1 l1_1.length c1_1) := (blk_cell BK277.out 1).trans rfl
   have hfz58_0 := blk_frozen BK277.out 0
   have hfz58_1 := blk_frozen BK277.out 1
   try go_wp2_with (first | ((with_reducible refine gate_callee (f := 88) rfl ?_); refine Short.goesS_ (some 30) Try.func88 #[.slice A0_1 l0_1.length c0_1, .slice A1_1 l1_1.length c1_1] ?_; (with_reducible refine (nat_Sub.calls k _ _ l0_1 _ _ l1_1 t289 false _ (Kd.C_below HR0_1.out HB.out) HC0_1.out (Kd.C_below HR1_1.out HB.out) HC1_1.out A23.out).mono ?_); rintro e w59 ⟨v291, rfl, ho0, hb⟩; refine ⟨_, rfl, ?_⟩; have HO292 := Aside0.mk (Kd.R_lower ho0 (below_size HB.out)); replace BK276 := Aside0.mk (blk_below BK276.out hb); replace BK277 := Aside0.mk (blk_below BK277.out hb); replace BK278 := Aside0.mk (blk_below BK278.out hb); replace HB := Aside0.mk (below_step HB.out hb); (try clear hb); (try clear ho0); have hcz60_0 : w59.cell? ⟨gb277, 0, none⟩ = some (.bool a1_0) := (blk_cell BK277.out 0).trans rfl; have hcz60_1 : w59.cell? ⟨gb277, 1, none⟩ = some (.slice A1_1 l1_1.length c1_1) := (blk_cell BK277.out 1).trans rfl; have hfz60_0 := blk_frozen BK277.out 0; have hfz60_1 := blk_frozen BK277.out 1; have hcz61_0 : w59.cell? ⟨gb276, 0, none⟩ = some (.bool a0_0) := (blk_cell BK276.out 0).trans rfl; have hcz61_1 : w59.cell? ⟨gb276, 1, none⟩ = some (.slice A0_1 l0_1.length c0_1) := (blk_cell BK276.out 1).trans rfl; have hfz61_0 := blk_frozen BK276.out 0; have hfz61_1 := blk_frozen BK276.out 1) | ((with_reducible refine gate_callee (f := 88) rfl ?_); refine Short.goesS_ (some 44) Try.func88 #[.slice A1_1 l1_1.length c1_1, .slice A0_1 l0_1.length c0_1] ?_; (with_reducible refine (nat_Sub.calls k _ _ l1_1 _ _ l0_1 t298 t299 _ (Kd.C_below HR1_1.out HB.out) HC1_1.out (Kd.C_below HR0_1.out HB.out) HC0_1.out A45.out).mono ?_); rintro e w62 ⟨v300, rfl, ho0, hb⟩; refine ⟨_, rfl, ?_⟩; have HO301 := Aside0.mk (Kd.R_lower (Kd.R_new' ho0 (Kd.R_lt HO292.out)) (below_size HB.out)); replace HO292 := Aside0.mk (Kd.R_elder' HO292.out (Kd.R_base ho0) hb); replace BK276 := Aside0.mk (blk_below BK276.out hb); replace BK277 := Aside0.mk (blk_below BK277.out hb); replace BK278 := Aside0.mk (blk_below BK278.out hb); replace HB := Aside0.mk (below_step HB.out hb); (try clear hb); (try clear ho0); have hcz63_0 : w62.cell? ⟨gb277, 0, none⟩ = some (.bool a1_0) := (blk_cell BK277.out 0).trans rfl; have hcz63_1 : w62.cell? ⟨gb277, 1, none⟩ = some (.slice A1_1 l1_1.length c1_1) := (blk_cell BK277.out 1).trans rfl; have hfz63_0 := blk_frozen BK277.out 0; have hfz63_1 := blk_frozen BK277.out 1) | ((with_reducible refine gate_callee (f := 49) rfl ?_); refine Short.goesS_ (some 48) Try.func49 #[.agg #[.bool a1_0, .slice A1_1 l1_1.length c1_1]] ?_; (with_reducible refine (whole_Sign.calls k a1_0 _ _ l1_1 t302 _ (Kd.C_below HR1_1.out HB.out) HC1_1.out A46.out).mono ?_); rintro e w64 ⟨rfl, hb⟩; refine ⟨_, rfl, ?_⟩; replace HO292 := Aside0.mk (Kd.R_below HO292.out hb); replace HO301 := Aside0.mk (Kd.R_below HO301.out hb); replace BK276 := Aside0.mk (blk_below BK276.out hb); replace BK277 := Aside0.mk (blk_below BK277.out hb); replace BK278 := Aside0.mk (blk_below BK278.out hb); replace HB := Aside0.mk (below_step HB.out hb); (try clear hb); obtain ⟨Ao65, co65, eo65⟩ := Kd.R_slice HO301.out; subst eo65) | ((with_reducible refine gate_callee (f := 45) rfl ?_); refine Short.goesS_ (some 51) Try.func45 #[.bool (decide (t302 < 0)), .slice Ao65 t298.length co65] ?_; (with_reducible refine (whole_Make.calls k (decide (t302 < 0)) _ _ t298 t303 t304 _ ((Kd.R_reads' HO301.out).2.2) ((Kd.R_reads' HO301.out).2.1) A47.out).mono ?_); rintro e w66 ⟨v305, rfl, ho0, hb⟩; refine ⟨_, rfl, ?_⟩; have HO306 := Aside0.mk (Kd.R_lower (Kd.R_new' (Kd.R_new' ho0 (Kd.R_lt HO292.out)) (Kd.R_lt HO301.out)) (below_size HB.out)); replace HO292 := Aside0.mk (Kd.R_elder' HO292.out (Kd.R_base ho0) hb); replace HO301 := Aside0.mk (Kd.R_elder' HO301.out (Kd.R_base ho0) hb); replace BK276 := Aside0.mk (blk_below BK276.out hb); replace BK277 := Aside0.mk (blk_below BK277.out hb); replace BK278 := Aside0.mk (blk_below BK278.out hb); replace HB := Aside0.mk (below_step HB.out hb); (try clear hb); (try clear ho0); have hcz67_0 : w66.cell? ⟨gb278, 0, none⟩ = some (.bool false) := (blk_cell BK278.out 0).trans rfl; have hcz67_1 : w66.cell? ⟨gb278, 1, none⟩ = some (.slice none 0 0) := (blk_cell BK278.out 1).trans rfl; have hfz67_0 := blk_frozen BK278.out 0; have hfz67_1 := blk_frozen BK278.out 1; obtain ⟨Ao68, co68, eo68⟩ := Kd.R_slice HO306.out; subst eo68))
   refine bodyPost_ret (results_cell_row rfl _ _ gb278 25 #[.bool t303, .slice Ao68 t304.length co68] (0, 0) _ rfl (by (with_reducible repeat (first | refine blk_drewN ?_ _ | refine blk_drew ?_ | refine blk_alloc ?_ _)); refine blk_put (cs := #[.bool t303, .slice none 0 0]) ?_ 1 _ rfl; (with_reducible repeat (first | refine blk_drewN ?_ _ | refine blk_drew ?_ | refine blk_alloc ?_ _)); refine blk_put (cs := #[.bool false, .slice none 0 0]) ?_ 0 _ rfl; (with_reducible repeat (first | refine blk_drewN ?_ _ | refine blk_drew ?_ | refine blk_alloc ?_ _)); exact BK278.out) Try.underlying25 rfl (by kernel_rfl)) rfl ?_
   exact ⟨_, by rfl, by (with_reducible repeat (first | apply Kd.R_alloc | apply Kd.R_drewN | apply Kd.R_drew)); exact Kd.R_mono (Kd.R_far (p := ⟨gb278, 1, none⟩) (Kd.R_far (p := ⟨gb278, 0, none⟩) (Kd.R_types HO306.out BK278.out (by decide)) (fun _ hk => hk.2) (.bool t303)) (fun _ hk => hk.2) (.slice Ao68 t304.length co68)) (fun _ hk => trivial), by repeat (first | (with_reducible first | exact HB.out | apply below_alloc | apply pw_below_drewN | apply below_drew1 | refine below_set ?_ GE276.out | refine below_set ?_ GE277.out | refine below_set ?_ GE278.out) | exact HB.out)⟩

theorem whole_Add.ev {m m' : Bool} {l l' : List Int} {a b : Int} {K : Nat} (ha : Zn.Is m l a K) (hb : Zn.Is m' l' b K) (hK : K < 900000) : Ev (fun k => whole_Add.f k m l m' l') (Zn.zd (a + b)) := by
 have oa := ha.ok (by omega)
 have ob := hb.ok (by omega)
 have la := ha.lt
 have lb := hb.lt
 unfold whole_Add.f
 refine Ev.bind (whole_Sign.ev ha (by omega)) (Ev.bind (whole_Sign.ev hb (by omega)) ?_)
 have da : decide (a.sign < 0) = decide (a < 0) := decide_eq_decide.2 (Zn.sign_lt a)
 have db : decide (b.sign < 0) = decide (b < 0) := decide_eq_decide.2 (Zn.sign_lt b)
 have A := nat_Add.ev oa ob
 have S1 := nat_Sub.ev oa ob
 have S2 := nat_Sub.ev ob oa
 rw [← ha.abs, ← hb.abs] at A S1 S2
 by_cases h : a < 0 ↔ b < 0
 ·refine Dec.yes (by rw [da, db, beq_iff_eq]; exact decide_eq_decide.2 h) (Ev.bind (whole_Sign.ev ha (by omega)) (Ev.bind A ?_))
  have M := whole_Make.ev (Zn.Is.nd (m := decide (a.sign < 0)) (Num.add_lt la lb)) (by omega)
  rw [da, Zn.add_same h] at M
  refine Ev.congr (fun k => ?_) (Ev.bind M (Ev.now _))
  rw [da]
 ·refine Dec.no (by rw [da, db, beq_iff_eq]; exact fun e => h (decide_eq_decide.1 e)) ?_
  by_cases hl : a.natAbs < b.natAbs
  ·rw [if_pos hl] at S1
   rw [if_neg (by omega)] at S2
   refine Ev.bind S1 (Dec.no (by decide) (Ev.bind S2 (Ev.bind (whole_Sign.ev hb (by omega)) ?_)))
   have M := whole_Make.ev (Zn.Is.nd (K := K) (n := b.natAbs - a.natAbs) (m := decide (b.sign < 0)) (by omega)) (by omega)
   rw [db, Zn.add_right h hl] at M
   refine Ev.congr (fun k => ?_) (Ev.bind M (Ev.now _))
   rw [db]
  ·rw [if_neg hl] at S1
   refine Ev.bind S1 (Dec.yes rfl (Ev.bind (whole_Sign.ev ha (by omega)) ?_))
   have M := whole_Make.ev (Zn.Is.nd (K := K) (n := a.natAbs - b.natAbs) (m := decide (a.sign < 0)) (by omega)) (by omega)
   rw [da, Zn.add_left h (by omega)] at M
   refine Ev.congr (fun k => ?_) (Ev.bind M (Ev.now _))
   rw [da]
/-! ### whole_Sub: function 86 -/
def whole_Sub.f (k : Nat) (a0_0 : Bool) (l0_1 : List Int) (a1_0 : Bool) (l1_1 : List Int) : Option (Bool × List Int) := (whole_Neg.f k a1_0 l1_1).bind fun bt310 => ((whole_Add.f k a0_0 l0_1 bt310.1 bt310.2).bind fun bt314 => (some (bt314.1, bt314.2)))
set_option maxHeartbeats 8000000 in
set_option maxRecDepth 100000 in
theorem whole_Sub.calls (k : Nat) (a0_0 : Bool) (A0_1 : Option Addr) (c0_1 : Nat) (l0_1 : List Int) (a1_0 : Bool) (A1_1 : Option Addr) (c1_1 : Nat) (l1_1 : List Int) (r1 : Bool) (r2 : List Int) (w : World) (hr0_1 : Kd.C (Kd.int .u32) w A0_1 l0_1.length l0_1) (hc0_1 : l0_1.length ≤ c0_1) (hr1_1 : Kd.C (Kd.int .u32) w A1_1 l1_1.length l1_1) (hc1_1 : l1_1.length ≤ c1_1) (h : whole_Sub.f k a0_0 l0_1 a1_0 l1_1 = some (r1, r2)) :
  Calls Try.prog 86 #[.agg #[.bool a0_0, .slice A0_1 l0_1.length c0_1], .agg #[.bool a1_0, .slice A1_1 l1_1.length c1_1]] w fun e w' => ∃ v1_ : Value, e = .returned (.agg #[.bool r1, v1_]) ∧ Kd.R (Kd.int .u32) 89 w' w.heap.size (fun _ => True) v1_ r2 ∧ Below w.heap.size w w' := by
 have hu25 := Try.underlying25
 have HR0_1 := Aside0.mk hr0_1
 have HC0_1 := Aside0.mk hc0_1
 clear hr0_1 hc0_1
 have HR1_1 := Aside0.mk hr1_1
 have HC1_1 := Aside0.mk hc1_1
 clear hr1_1 hc1_1
 have HB := Aside0.mk (Below.refl w.heap.size w)
 have H : ((whole_Neg.f k a1_0 l1_1).bind fun bt310 => ((whole_Add.f k a0_0 l0_1 bt310.1 bt310.2).bind fun bt314 => (some (bt314.1, bt314.2)))) = some (r1, r2) := h
 clear h
 replace H := Option.bind_eq_some_iff.mp H
 obtain ⟨⟨t310, t311⟩, A30, H⟩ := H
 try dsimp only at H
 have A3 := Aside0.mk A30
 clear A30
 replace H := Option.bind_eq_some_iff.mp H
 obtain ⟨⟨t314, t315⟩, A40, H⟩ := H
 replace H : (some (t314, t315)) = some (r1, r2) := H
 have A4 := Aside0.mk A40
 clear A40
 simp only [Option.some.injEq, Prod.mk.injEq] at H
 obtain ⟨rfl, rfl⟩ := H
 go_enter Try.func86, Try.ntmps86
 try go_wp2_with (first | ((with_reducible refine gate_dst (N := 2) rfl ?_); refine Short.boxS_ (N := 2) (cs := #[.bool a0_0, .slice A0_1 l0_1.length c0_1]) (t := 25) ?_; intro gb307 hg w5 hbox hb; have BK307 := Aside0.mk (hbox); have GW307 := Aside0.mk ((by rw [hg]; exact (below_size (by repeat (first | (with_reducible first | exact HB.out | apply below_alloc | apply pw_below_drewN | apply below_drew1) | exact HB.out))) : w.heap.size ≤ gb307)); have GE307 := Aside0.mk ((by rw [hg]; exact (below_size (by repeat (first | (with_reducible first | exact HB.out | apply below_alloc | apply pw_below_drewN | apply below_drew1) | exact HB.out))) : w.heap.size ≤ gb307)); replace HB := Aside0.mk (below_step (by repeat (first | (with_reducible first | exact HB.out | apply below_alloc | apply pw_below_drewN | apply below_drew1) | exact HB.out)) hb); clear hb hbox hg) | ((with_reducible refine gate_dst (N := 3) rfl ?_); refine Short.boxS_ (N := 3) (cs := #[.bool a1_0, .slice A1_1 l1_1.length c1_1]) (t := 25) ?_; intro gb308 hg w6 hbox hb; have BK308 := Aside0.mk (hbox); have GW308 := Aside0.mk ((by rw [hg]; exact (below_size HB.out) : w.heap.size ≤ gb308)); have GE308 := Aside0.mk ((by rw [hg]; exact (below_size HB.out) : w.heap.size ≤ gb308)); replace HB := Aside0.mk (below_step HB.out hb); have NB307_308 := Short.ltA_ hg BK307; have NB308_307 := Short.gtA_ hg BK307; replace BK307 := Aside0.mk (blk_below BK307.out hb); clear hb hbox hg) | ((with_reducible refine gate_dst (N := 4) rfl ?_); refine Short.boxS_ (N := 4) (cs := #[.bool false, .slice none 0 0]) (t := 25) ?_; intro gb309 hg w7 hbox hb; have BK309 := Aside0.mk (hbox); have GW309 := Aside0.mk ((by rw [hg]; exact (below_size HB.out) : w.heap.size ≤ gb309)); have GE309 := Aside0.mk ((by rw [hg]; exact (below_size HB.out) : w.heap.size ≤ gb309)); replace HB := Aside0.mk (below_step HB.out hb); have NB307_309 := Short.ltA_ hg BK307; have NB309_307 := Short.gtA_ hg BK307; replace BK307 := Aside0.mk (blk_below BK307.out hb); have NB308_309 := Short.ltA_ hg BK308; have NB309_308 := Short.gtA_ hg BK308; replace BK308 := Aside0.mk (blk_below BK308.out hb); clear hb hbox hg))
 replace BK307 := Aside0.mk (blk_drew BK307.out)
 replace BK308 := Aside0.mk (blk_drew BK308.out)
 replace BK309 := Aside0.mk (blk_drew BK309.out)
 replace HB := Aside0.mk (below_drew1 HB.out)
 refine start_ (n := 5) (S := fun w' => w'.cell? ⟨gb307, 0, none⟩ = some (.bool a0_0) ∧ w'.cell? ⟨gb307, 1, none⟩ = some (.slice A0_1 l0_1.length c0_1) ∧ w'.cell? ⟨gb308, 0, none⟩ = some (.bool a1_0) ∧ w'.cell? ⟨gb308, 1, none⟩ = some (.slice A1_1 l1_1.length c1_1)) (ds := []) #[false, false, false, false, false] (by kernel_rfl) rfl rfl ⟨(blk_cell BK307.out 0).trans rfl, (blk_cell BK307.out 1).trans rfl, (blk_cell BK308.out 0).trans rfl, (blk_cell BK308.out 1).trans rfl⟩ (fun hHeld => ?_)
 generalize w7.drew = w8 at BK307 BK308 BK309 HB hHeld ⊢
 refine Short.takeS_ (i := 0) (N := some 5) #[true, false, false, false, false] (by kernel_rfl) hHeld ?_
 refine Short.takeS_ (i := 1) (N := some 6) #[true, true, false, false, false] (by kernel_rfl) hHeld ?_
 refine one_ (i := 2) (N := some 7) #[true, true, true, false, false] rfl rfl (by kernel_rfl) (by decide) (fun K hK => ?_)
 refine Short.goesD_ Try.func61 #[.agg #[.bool a1_0, .slice A1_1 l1_1.length c1_1]] ?_
 with_reducible refine (whole_Neg.calls k a1_0 _ _ l1_1 t310 t311 _ (Kd.C_below HR1_1.out HB.out) HC1_1.out A3.out).mono ?_
 rintro e w9 ⟨v312, rfl, ho0, hb⟩
 refine ⟨_, rfl, ?_⟩
 have HO313 := Aside0.mk (Kd.R_lower ho0 (below_size HB.out))
 replace BK307 := Aside0.mk (blk_below BK307.out hb)
 replace BK308 := Aside0.mk (blk_below BK308.out hb)
 replace BK309 := Aside0.mk (blk_below BK309.out hb)
 replace HB := Aside0.mk (below_step HB.out hb)
 (try clear hb)
 (try clear ho0)
 obtain ⟨Ao10, co10, eo10⟩ := Kd.R_slice HO313.out
 (first | subst eo10 | (injection eo10 with f1_ f2_ f3_; have f4_ := f1_.symm; have f5_ := f3_.symm; clear f1_ f2_ f3_; subst f4_; subst f5_))
 refine hK.out _ _ ⟨(blk_cell BK307.out 0).trans rfl, (blk_cell BK307.out 1).trans rfl, (blk_cell BK308.out 0).trans rfl, (blk_cell BK308.out 1).trans rfl⟩ (fun hHeld => ?_)
 clear hK K
 refine Short.normS_ ?_
 refine one_ (i := 3) (N := some 8) #[true, true, true, true, false] rfl rfl (by kernel_rfl) (by decide) (fun K hK => ?_)
 refine Short.goesD_ Try.func64 #[.agg #[.bool a0_0, .slice A0_1 l0_1.length c0_1], .agg #[.bool t310, .slice Ao10 t311.length co10]] ?_
 with_reducible refine (whole_Add.calls k a0_0 _ _ l0_1 t310 _ _ t311 t314 t315 _ (Kd.C_below HR0_1.out HB.out) HC0_1.out ((Kd.R_reads' HO313.out).2.2) ((Kd.R_reads' HO313.out).2.1) A4.out).mono ?_
 rintro e w11 ⟨v316, rfl, ho0, hb⟩
 refine ⟨_, rfl, ?_⟩
 have HO317 := Aside0.mk (Kd.R_lower (Kd.R_new' ho0 (Kd.R_lt HO313.out)) (below_size HB.out))
 replace HO313 := Aside0.mk (Kd.R_elder' HO313.out (Kd.R_base ho0) hb)
 replace BK307 := Aside0.mk (blk_below BK307.out hb)
 replace BK308 := Aside0.mk (blk_below BK308.out hb)
 replace BK309 := Aside0.mk (blk_below BK309.out hb)
 replace HB := Aside0.mk (below_step HB.out hb)
 (try clear hb)
 (try clear ho0)
 obtain ⟨Ao13, co13, eo13⟩ := Kd.R_slice HO317.out
 (first | subst eo13 | (injection eo13 with f1_ f2_ f3_; have f4_ := f1_.symm; have f5_ := f3_.symm; clear f1_ f2_ f3_; subst f4_; subst f5_))
 refine hK.out _ _ ⟨(blk_cell BK307.out 0).trans rfl, (blk_cell BK307.out 1).trans rfl, (blk_cell BK308.out 0).trans rfl, (blk_cell BK308.out 1).trans rfl⟩ (fun hHeld => ?_)
 clear hK K
 refine Short.normS_ ?_
 refine one_ (i := 4) (N := none) #[true, true, true, true, true] rfl rfl (by kernel_rfl) (by decide) (fun K hK => ?_)
 have hs12 : w11.cell? ⟨gb309, 0, none⟩ = some (.bool false) := (blk_cell BK309.out 0).trans rfl
 have hfs12 := blk_frozen BK309.out 0
 have hns12_0 := NB307_309.out
 have hns12_1 := NB308_309.out
 have hms12_0 := NB309_307.out
 have hms12_1 := NB309_308.out
 have hs14 : w11.cell? ⟨gb309, 1, none⟩ = some (.slice none 0 0) := (blk_cell BK309.out 1).trans rfl
 have hfs14 := blk_frozen BK309.out 1
 have hns14_0 := NB307_309.out
 have hns14_1 := NB308_309.out
 have hms14_0 := NB309_307.out
 have hms14_1 := NB309_308.out
 refine skip_ (w1 := ?_) (by rfl) rfl ?_ ?_
 rotate_left
 ·go_simp
  rfl
 refine hK.out _ _ ⟨((cell_far (p := ⟨gb309, _, none⟩) NB307_309.out _).trans (((cell_far (p := ⟨gb309, _, none⟩) NB307_309.out _).trans (hHeld.1)))), ((cell_far (p := ⟨gb309, _, none⟩) NB307_309.out _).trans (((cell_far (p := ⟨gb309, _, none⟩) NB307_309.out _).trans (hHeld.2.1)))), ((cell_far (p := ⟨gb309, _, none⟩) NB308_309.out _).trans (((cell_far (p := ⟨gb309, _, none⟩) NB308_309.out _).trans (hHeld.2.2.1)))), ((cell_far (p := ⟨gb309, _, none⟩) NB308_309.out _).trans (((cell_far (p := ⟨gb309, _, none⟩) NB308_309.out _).trans (hHeld.2.2.2))))⟩ (fun hHeld => ?_)
 clear hK K
 refine done_ (by kernel_rfl) ?_
 try go_wp2
 refine bodyPost_ret (results_cell_row rfl _ _ gb309 25 #[.bool t314, .slice Ao13 t315.length co13] (0, 0) _ rfl (by (with_reducible repeat (first | refine blk_drewN ?_ _ | refine blk_drew ?_ | refine blk_alloc ?_ _)); refine blk_put (cs := #[.bool t314, .slice none 0 0]) ?_ 1 _ rfl; (with_reducible repeat (first | refine blk_drewN ?_ _ | refine blk_drew ?_ | refine blk_alloc ?_ _)); refine blk_put (cs := #[.bool false, .slice none 0 0]) ?_ 0 _ rfl; (with_reducible repeat (first | refine blk_drewN ?_ _ | refine blk_drew ?_ | refine blk_alloc ?_ _)); exact BK309.out) Try.underlying25 rfl (by kernel_rfl)) rfl ?_
 exact ⟨_, by rfl, by (with_reducible repeat (first | apply Kd.R_alloc | apply Kd.R_drewN | apply Kd.R_drew)); exact Kd.R_mono (Kd.R_far (p := ⟨gb309, 1, none⟩) (Kd.R_far (p := ⟨gb309, 0, none⟩) (Kd.R_types HO317.out BK309.out (by decide)) (fun _ hk => hk.2) (.bool t314)) (fun _ hk => hk.2) (.slice Ao13 t315.length co13)) (fun _ hk => trivial), by repeat (first | (with_reducible first | exact HB.out | apply below_alloc | apply pw_below_drewN | apply below_drew1 | refine below_set ?_ GE307.out | refine below_set ?_ GE308.out | refine below_set ?_ GE309.out) | exact HB.out)⟩

theorem whole_Sub.ev {m m' : Bool} {l l' : List Int} {a b : Int} {K : Nat} (ha : Zn.Is m l a K) (hb : Zn.Is m' l' b K) (hK : K < 900000) : Ev (fun k => whole_Sub.f k m l m' l') (Zn.zd (a - b)) := by
 unfold whole_Sub.f
 rw [Int.sub_eq_add_neg]
 exact Ev.bind (whole_Neg.ev hb (by omega)) (Ev.bind (whole_Add.ev ha (Zn.Is.zd (Zn.abs_neg hb.lt)) hK) (Ev.now _))
/-! ### whole_Floor_cl1: function 85 -/
def whole_Floor_cl1.f (k : Nat) (a0_0 : Bool) (l0_1 : List Int) (a1_0 : Bool) (l1_1 : List Int) (a2_0 : Bool) (l2_1 : List Int) : Option (Bool × List Int) := (whole_Mul.f k a1_0 l1_1 a2_0 l2_1).bind fun bt322 => ((whole_Sub.f k a0_0 l0_1 bt322.1 bt322.2).bind fun bt326 => (some (bt326.1, bt326.2)))
set_option maxHeartbeats 8000000 in
set_option maxRecDepth 100000 in
theorem whole_Floor_cl1.calls (k : Nat) (g0 g1 g2 : Nat) (a0_0 : Bool) (A0_1 : Option Addr) (c0_1 : Nat) (l0_1 : List Int) (a1_0 : Bool) (A1_1 : Option Addr) (c1_1 : Nat) (l1_1 : List Int) (a2_0 : Bool) (A2_1 : Option Addr) (c2_1 : Nat) (l2_1 : List Int) (r1 : Bool) (r2 : List Int) (w : World) (hr0_1 : Kd.C (Kd.int .u32) w A0_1 l0_1.length l0_1) (hc0_1 : l0_1.length ≤ c0_1) (hr1_1 : Kd.C (Kd.int .u32) w A1_1 l1_1.length l1_1) (hc1_1 : l1_1.length ≤ c1_1) (hr2_1 : Kd.C (Kd.int .u32) w A2_1 l2_1.length l2_1) (hc2_1 : l2_1.length ≤ c2_1) (hg0 : w.heap[g0]? = some (.cells #[.bool a0_0, .slice A0_1 l0_1.length c0_1] 25 (0, 0))) (hg1 : w.heap[g1]? = some (.cells #[.bool a1_0, .slice A1_1 l1_1.length c1_1] 25 (0, 0))) (hg2 : w.heap[g2]? = some (.cells #[.bool a2_0, .slice A2_1 l2_1.length c2_1] 25 (0, 0))) (h : whole_Floor_cl1.f k a0_0 l0_1 a1_0 l1_1 a2_0 l2_1 = some (r1, r2)) :
  Calls Try.prog 85 #[.pointer (some ⟨g0, 0, none⟩), .pointer (some ⟨g1, 0, none⟩), .pointer (some ⟨g2, 0, none⟩)] w fun e w' => ∃ v1_ : Value, e = .returned (.agg #[.bool r1, v1_]) ∧ Kd.R (Kd.int .u32) 89 w' w.heap.size (fun _ => True) v1_ r2 ∧ Below w.heap.size w w' := by
 have hu25 := Try.underlying25
 have HR0_1 := Aside0.mk hr0_1
 have HC0_1 := Aside0.mk hc0_1
 clear hr0_1 hc0_1
 have HR1_1 := Aside0.mk hr1_1
 have HC1_1 := Aside0.mk hc1_1
 clear hr1_1 hc1_1
 have HR2_1 := Aside0.mk hr2_1
 have HC2_1 := Aside0.mk hc2_1
 clear hr2_1 hc2_1
 have HB := Aside0.mk (Below.refl w.heap.size w)
 have H : ((whole_Mul.f k a1_0 l1_1 a2_0 l2_1).bind fun bt322 => ((whole_Sub.f k a0_0 l0_1 bt322.1 bt322.2).bind fun bt326 => (some (bt326.1, bt326.2)))) = some (r1, r2) := h
 clear h
 replace H := Option.bind_eq_some_iff.mp H
 obtain ⟨⟨t322, t323⟩, A40, H⟩ := H
 try dsimp only at H
 have A4 := Aside0.mk A40
 clear A40
 replace H := Option.bind_eq_some_iff.mp H
 obtain ⟨⟨t326, t327⟩, A50, H⟩ := H
 replace H : (some (t326, t327)) = some (r1, r2) := H
 have A5 := Aside0.mk A50
 clear A50
 simp only [Option.some.injEq, Prod.mk.injEq] at H
 obtain ⟨rfl, rfl⟩ := H
 have BK318 := Aside0.mk hg0
 have BK319 := Aside0.mk hg1
 have BK320 := Aside0.mk hg2
 clear hg0 hg1 hg2
 go_enter Try.func85, Try.ntmps85
 go_wp2_with (first | ((with_reducible refine gate_dst (N := 3) rfl ?_); refine Short.boxS_ (N := 3) (cs := #[.bool false, .slice none 0 0]) (t := 25) ?_; intro gb321 hg w9 hbox hb; have BK321 := Aside0.mk (hbox); have GW321 := Aside0.mk ((by rw [hg]; exact (below_size HB.out) : w.heap.size ≤ gb321)); have GE321 := Aside0.mk ((by rw [hg]; exact (below_size HB.out) : w.heap.size ≤ gb321)); replace HB := Aside0.mk (below_step HB.out hb); have NB318_321 := Aside0.mk ((by rw [hg]; exact Nat.ne_of_lt (blk_lt (g := g0) (o := .cells #[.bool a0_0, .slice A0_1 l0_1.length c0_1] 25 (0, 0)) BK318.out) : g0 ≠ gb321)); have NB321_318 := Aside0.mk ((by rw [hg]; exact Nat.ne_of_gt (blk_lt (g := g0) (o := .cells #[.bool a0_0, .slice A0_1 l0_1.length c0_1] 25 (0, 0)) BK318.out) : gb321 ≠ g0)); replace BK318 := Aside0.mk (blk_below (g := g0) (o := .cells #[.bool a0_0, .slice A0_1 l0_1.length c0_1] 25 (0, 0)) BK318.out hb); have NB319_321 := Aside0.mk ((by rw [hg]; exact Nat.ne_of_lt (blk_lt (g := g1) (o := .cells #[.bool a1_0, .slice A1_1 l1_1.length c1_1] 25 (0, 0)) BK319.out) : g1 ≠ gb321)); have NB321_319 := Aside0.mk ((by rw [hg]; exact Nat.ne_of_gt (blk_lt (g := g1) (o := .cells #[.bool a1_0, .slice A1_1 l1_1.length c1_1] 25 (0, 0)) BK319.out) : gb321 ≠ g1)); replace BK319 := Aside0.mk (blk_below (g := g1) (o := .cells #[.bool a1_0, .slice A1_1 l1_1.length c1_1] 25 (0, 0)) BK319.out hb); have NB320_321 := Aside0.mk ((by rw [hg]; exact Nat.ne_of_lt (blk_lt (g := g2) (o := .cells #[.bool a2_0, .slice A2_1 l2_1.length c2_1] 25 (0, 0)) BK320.out) : g2 ≠ gb321)); have NB321_320 := Aside0.mk ((by rw [hg]; exact Nat.ne_of_gt (blk_lt (g := g2) (o := .cells #[.bool a2_0, .slice A2_1 l2_1.length c2_1] 25 (0, 0)) BK320.out) : gb321 ≠ g2)); replace BK320 := Aside0.mk (blk_below (g := g2) (o := .cells #[.bool a2_0, .slice A2_1 l2_1.length c2_1] 25 (0, 0)) BK320.out hb); clear hb hbox hg))
 replace BK318 := Aside0.mk (blk_drew BK318.out)
 replace BK319 := Aside0.mk (blk_drew BK319.out)
 replace BK320 := Aside0.mk (blk_drew BK320.out)
 replace BK321 := Aside0.mk (blk_drew BK321.out)
 replace HB := Aside0.mk (below_drew1 HB.out)
 refine start_ (n := 6) (S := fun w' => w'.cell? ⟨g0, 0, none⟩ = some (.bool a0_0) ∧ w'.cell? ⟨g0, 1, none⟩ = some (.slice A0_1 l0_1.length c0_1) ∧ w'.cell? ⟨g1, 0, none⟩ = some (.bool a1_0) ∧ w'.cell? ⟨g1, 1, none⟩ = some (.slice A1_1 l1_1.length c1_1) ∧ w'.cell? ⟨g2, 0, none⟩ = some (.bool a2_0) ∧ w'.cell? ⟨g2, 1, none⟩ = some (.slice A2_1 l2_1.length c2_1)) (ds := []) #[false, false, false, false, false, false] (by kernel_rfl) rfl rfl ⟨(blk_cell BK318.out 0).trans rfl, (blk_cell BK318.out 1).trans rfl, (blk_cell BK319.out 0).trans rfl, (blk_cell BK319.out 1).trans rfl, (blk_cell BK320.out 0).trans rfl, (blk_cell BK320.out 1).trans rfl⟩ (fun hHeld => ?_)
 generalize w9.drew = w10 at BK318 BK319 BK320 BK321 HB hHeld ⊢
 refine Short.takeS_ (i := 0) (N := some 4) #[true, false, false, false, false, false] (by kernel_rfl) hHeld ?_
 refine Short.takeS_ (i := 1) (N := some 5) #[true, true, false, false, false, false] (by kernel_rfl) hHeld ?_
 refine Short.takeS_ (i := 2) (N := some 6) #[true, true, true, false, false, false] (by kernel_rfl) hHeld ?_
 refine one_ (i := 3) (N := some 7) #[true, true, true, true, false, false] rfl rfl (by kernel_rfl) (by decide) (fun K hK => ?_)
 refine Short.goesD_ Try.func67 #[.agg #[.bool a1_0, .slice A1_1 l1_1.length c1_1], .agg #[.bool a2_0, .slice A2_1 l2_1.length c2_1]] ?_
 with_reducible refine (whole_Mul.calls k a1_0 _ _ l1_1 a2_0 _ _ l2_1 t322 t323 _ (Kd.C_below HR1_1.out HB.out) HC1_1.out (Kd.C_below HR2_1.out HB.out) HC2_1.out A4.out).mono ?_
 rintro e w11 ⟨v324, rfl, ho0, hb⟩
 refine ⟨_, rfl, ?_⟩
 have HO325 := Aside0.mk (Kd.R_lower ho0 (below_size HB.out))
 replace BK318 := Aside0.mk (blk_below (g := g0) (o := .cells #[.bool a0_0, .slice A0_1 l0_1.length c0_1] 25 (0, 0)) BK318.out hb)
 replace BK319 := Aside0.mk (blk_below (g := g1) (o := .cells #[.bool a1_0, .slice A1_1 l1_1.length c1_1] 25 (0, 0)) BK319.out hb)
 replace BK320 := Aside0.mk (blk_below (g := g2) (o := .cells #[.bool a2_0, .slice A2_1 l2_1.length c2_1] 25 (0, 0)) BK320.out hb)
 replace BK321 := Aside0.mk (blk_below BK321.out hb)
 replace HB := Aside0.mk (below_step HB.out hb)
 (try clear hb)
 (try clear ho0)
 obtain ⟨Ao12, co12, eo12⟩ := Kd.R_slice HO325.out
 (first | subst eo12 | (injection eo12 with f1_ f2_ f3_; have f4_ := f1_.symm; have f5_ := f3_.symm; clear f1_ f2_ f3_; subst f4_; subst f5_))
 refine hK.out _ _ ⟨(blk_cell BK318.out 0).trans rfl, (blk_cell BK318.out 1).trans rfl, (blk_cell BK319.out 0).trans rfl, (blk_cell BK319.out 1).trans rfl, (blk_cell BK320.out 0).trans rfl, (blk_cell BK320.out 1).trans rfl⟩ (fun hHeld => ?_)
 clear hK K
 refine Short.normS_ ?_
 refine one_ (i := 4) (N := some 8) #[true, true, true, true, true, false] rfl rfl (by kernel_rfl) (by decide) (fun K hK => ?_)
 refine Short.goesD_ Try.func86 #[.agg #[.bool a0_0, .slice A0_1 l0_1.length c0_1], .agg #[.bool t322, .slice Ao12 t323.length co12]] ?_
 with_reducible refine (whole_Sub.calls k a0_0 _ _ l0_1 t322 _ _ t323 t326 t327 _ (Kd.C_below HR0_1.out HB.out) HC0_1.out ((Kd.R_reads' HO325.out).2.2) ((Kd.R_reads' HO325.out).2.1) A5.out).mono ?_
 rintro e w13 ⟨v328, rfl, ho0, hb⟩
 refine ⟨_, rfl, ?_⟩
 have HO329 := Aside0.mk (Kd.R_lower (Kd.R_new' ho0 (Kd.R_lt HO325.out)) (below_size HB.out))
 replace HO325 := Aside0.mk (Kd.R_elder' HO325.out (Kd.R_base ho0) hb)
 replace BK318 := Aside0.mk (blk_below (g := g0) (o := .cells #[.bool a0_0, .slice A0_1 l0_1.length c0_1] 25 (0, 0)) BK318.out hb)
 replace BK319 := Aside0.mk (blk_below (g := g1) (o := .cells #[.bool a1_0, .slice A1_1 l1_1.length c1_1] 25 (0, 0)) BK319.out hb)
 replace BK320 := Aside0.mk (blk_below (g := g2) (o := .cells #[.bool a2_0, .slice A2_1 l2_1.length c2_1] 25 (0, 0)) BK320.out hb)
 replace BK321 := Aside0.mk (blk_below BK321.out hb)
 replace HB := Aside0.mk (below_step HB.out hb)
 (try clear hb)
 (try clear ho0)
 obtain ⟨Ao15, co15, eo15⟩ := Kd.R_slice HO329.out
 (first | subst eo15 | (injection eo15 with f1_ f2_ f3_; have f4_ := f1_.symm; have f5_ := f3_.symm; clear f1_ f2_ f3_; subst f4_; subst f5_))
 refine hK.out _ _ ⟨(blk_cell BK318.out 0).trans rfl, (blk_cell BK318.out 1).trans rfl, (blk_cell BK319.out 0).trans rfl, (blk_cell BK319.out 1).trans rfl, (blk_cell BK320.out 0).trans rfl, (blk_cell BK320.out 1).trans rfl⟩ (fun hHeld => ?_)
 clear hK K
 refine Short.normS_ ?_
 refine one_ (i := 5) (N := none) #[true, true, true, true, true, true] rfl rfl (by kernel_rfl) (by decide) (fun K hK => ?_)
 have hs14 : w13.cell? ⟨gb321, 0, none⟩ = some (.bool false) := (blk_cell BK321.out 0).trans rfl
 have hfs14 := blk_frozen BK321.out 0
 have hns14_0 := NB318_321.out
 have hns14_1 := NB319_321.out
 have hns14_2 := NB320_321.out
 have hms14_0 := NB321_318.out
 have hms14_1 := NB321_319.out
 have hms14_2 := NB321_320.out
 have hs16 : w13.cell? ⟨gb321, 1, none⟩ = some (.slice none 0 0) := (blk_cell BK321.out 1).trans rfl
 have hfs16 := blk_frozen BK321.out 1
 have hns16_0 := NB318_321.out
 have hns16_1 := NB319_321.out
 have hns16_2 := NB320_321.out
 have hms16_0 := NB321_318.out
 have hms16_1 := NB321_319.out
 have hms16_2 := NB321_320.out
 refine skip_ (w1 := ?_) (by rfl) rfl ?_ ?_
 rotate_left
 ·go_simp
  rfl
 refine hK.out _ _ ⟨((cell_far (p := ⟨gb321, _, none⟩) NB318_321.out _).trans (((cell_far (p := ⟨gb321, _, none⟩) NB318_321.out _).trans (hHeld.1)))), ((cell_far (p := ⟨gb321, _, none⟩) NB318_321.out _).trans (((cell_far (p := ⟨gb321, _, none⟩) NB318_321.out _).trans (hHeld.2.1)))), ((cell_far (p := ⟨gb321, _, none⟩) NB319_321.out _).trans (((cell_far (p := ⟨gb321, _, none⟩) NB319_321.out _).trans (hHeld.2.2.1)))), ((cell_far (p := ⟨gb321, _, none⟩) NB319_321.out _).trans (((cell_far (p := ⟨gb321, _, none⟩) NB319_321.out _).trans (hHeld.2.2.2.1)))), ((cell_far (p := ⟨gb321, _, none⟩) NB320_321.out _).trans (((cell_far (p := ⟨gb321, _, none⟩) NB320_321.out _).trans (hHeld.2.2.2.2.1)))), ((cell_far (p := ⟨gb321, _, none⟩) NB320_321.out _).trans (((cell_far (p := ⟨gb321, _, none⟩) NB320_321.out _).trans (hHeld.2.2.2.2.2))))⟩ (fun hHeld => ?_)
 clear hK K
 refine done_ (by kernel_rfl) ?_
 try go_wp2
 refine bodyPost_ret (results_cell_row rfl _ _ gb321 25 #[.bool t326, .slice Ao15 t327.length co15] (0, 0) _ rfl (by (with_reducible repeat (first | refine blk_drewN ?_ _ | refine blk_drew ?_ | refine blk_alloc ?_ _)); refine blk_put (cs := #[.bool t326, .slice none 0 0]) ?_ 1 _ rfl; (with_reducible repeat (first | refine blk_drewN ?_ _ | refine blk_drew ?_ | refine blk_alloc ?_ _)); refine blk_put (cs := #[.bool false, .slice none 0 0]) ?_ 0 _ rfl; (with_reducible repeat (first | refine blk_drewN ?_ _ | refine blk_drew ?_ | refine blk_alloc ?_ _)); exact BK321.out) Try.underlying25 rfl (by kernel_rfl)) rfl ?_
 exact ⟨_, by rfl, by (with_reducible repeat (first | apply Kd.R_alloc | apply Kd.R_drewN | apply Kd.R_drew)); exact Kd.R_mono (Kd.R_far (p := ⟨gb321, 1, none⟩) (Kd.R_far (p := ⟨gb321, 0, none⟩) (Kd.R_types HO329.out BK321.out (by decide)) (fun _ hk => hk.2) (.bool t326)) (fun _ hk => hk.2) (.slice Ao15 t327.length co15)) (fun _ hk => trivial), by repeat (first | (with_reducible first | exact HB.out | apply below_alloc | apply pw_below_drewN | apply below_drew1 | refine below_set ?_ GE318.out | refine below_set ?_ GE319.out | refine below_set ?_ GE320.out | refine below_set ?_ GE321.out) | exact HB.out)⟩

theorem whole_Floor_cl1.ev {m m' m2 : Bool} {l l' l2 : List Int} {a b x : Int} {K J : Nat} (ha : Zn.Is m l a (K + J)) (hb : Zn.Is m' l' b K) (hx : Zn.Is m2 l2 x J) (hK : K + J < 900000) : Ev (fun k => whole_Floor_cl1.f k m l m' l' m2 l2) (Zn.zd (a - b * x)) := by
 unfold whole_Floor_cl1.f
 exact Ev.bind (whole_Mul.ev hb hx (by omega)) (Ev.bind (whole_Sub.ev ha (Zn.Is.zd (Zn.abs_mul hb.lt hx.lt)) hK) (Ev.now _))
end Go.Proofs.Ytcdkopidgibijaa.PR
