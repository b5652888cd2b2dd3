/- Several functions' texts in one file. -/
import Derived.Test.YtcdkopidgibijaaTy
import Derived.Test.YtcdkopidgibijaaShort
import Derived.Test.YtcdkopidgibijaaPRg0
import Derived.Test.YtcdkopidgibijaaDec
import Derived.Test.YtcdkopidgibijaaNum
import Derived.Test.YtcdkopidgibijaaGoc
import Derived.Test.YtcdkopidgibijaaClo
import Derived.Test.YtcdkopidgibijaaRat
import Derived.Test.YtcdkopidgibijaaInt
namespace Go.Proofs.Ytcdkopidgibijaa.PR
open Go.RowKit Go.Proofs.YtcdkopidgibijaaW.PrintWords Go.Proofs.YtcdkopidgibijaaW.PrintLast Go.Proofs.YtcdkopidgibijaaW.PrintMore
attribute [local go_sem] max2_int min2_int max_two min_two max_three min_three max_four min_four   -- for this text's walks alone
set_option linter.unusedVariables false
set_option linter.unusedSimpArgs false
def rat_Neg.f (k : Nat) (a0_0 : Bool) (l0_1 : List Int) (l0_2 : List Int) : Option (Bool × List Int × List Int) := (whole_Neg.f k a0_0 l0_1).bind fun bt431 => ((rat_Make.f k bt431.1 bt431.2 l0_2).bind fun bt435 => (some (bt435.1, bt435.2.1, bt435.2.2)))
theorem rat_Neg.ev {m : Bool} {l1 l2 : List Int} {r : Rat} {K : Nat} (h : Qn.Is m l1 l2 r K) (hK1 : 1 ≤ K) (hK : K < 400000) : Ev (fun k => rat_Neg.f k m l1 l2) (Qn.qd (-r)) := by
 have M := rat_Make.ev (Zn.Is.zd (Zn.abs_neg h.num.lt)) h.ws h.len hK1 hK
 rw [← Rat.neg_mkRat, h.val] at M
 unfold rat_Neg.f
 exact Ev.bind (whole_Neg.ev h.num (by omega)) (Ev.bind M (Ev.now _))
set_option synthInstance.checkSynthOrder false in
open Lin in
set_option maxHeartbeats 4000000 in
instance rat_Neg.t {k : Nat} {a0_0 : Bool} {l0_1 : List Int} {l0_2 : List Int} {r : Bool × List Int × List Int} [h : Ans (rat_Neg.f k a0_0 l0_1 l0_2) r] : Tl Try.prog 33 [.agg [.val (.bool a0_0), .row l0_1, .row l0_2]] (.el (.agg [.val (.bool r.1), .row r.2.1, .row r.2.2])) := by
 have h := h.out
 unfold rat_Neg.f at h
 repeat' (first | (replace h := Lin.bndK h) | (replace h := Lin.bnd h; obtain ⟨_, _, h⟩ := h) | split at h | cases h)
 all_goals exact ⟨Tells.go Try.func33 Try.ntmps33⟩
mutual
def nat_Mul.l0 : Nat → List Int → List Int → List Int → Int → Int → Option (List Int)
 | 0, _, _, _, _, _ => none
 | k + 1, x1, x5, x17, x18, x19 => if x19 < x18 then (if 0 ≤ x19 then (if x19 < (x17.length : Int) then (nat_Mul.l1 k x1 x5 x19 (rd x17 x19) 0 x17 x18 x19 x1 (x1.length : Int) 0) else (none)) else (none)) else ((nat_trim.f k x5).bind fun t241 => (some t241))
def nat_Mul.l1 : Nat → List Int → List Int → Int → Int → Int → List Int → Int → Int → List Int → Int → Int → Option (List Int)
 | 0, _, _, _, _, _, _, _, _, _, _, _ => none
 | k + 1, x1, x5, x6, x7, x8, x17, x18, x19, x24, x25, x26 => if x26 < x25 then (if 0 ≤ x26 then (if x26 < (x24.length : Int) then (if 0 ≤ (wrap64 (x6 + x26)) then (if (wrap64 (x6 + x26)) < (x5.length : Int) then (nat_Mul.l1 k x1 (x5.set ((wrap64 (x6 + x26)) : Int).toNat ((IntKind.u64.wrap (x8 + (IntKind.u64.wrap ((IntKind.u64.wrap ((IntKind.u64.wrap (x7)) * (IntKind.u64.wrap (rd x24 x26)))) + (IntKind.u64.wrap (rd x5 (wrap64 (x6 + x26)))))))) % 4294967296)) x6 x7 ((IntKind.u64.wrap (x8 + (IntKind.u64.wrap ((IntKind.u64.wrap ((IntKind.u64.wrap (x7)) * (IntKind.u64.wrap (rd x24 x26)))) + (IntKind.u64.wrap (rd x5 (wrap64 (x6 + x26)))))))) / 4294967296) x17 x18 x19 x24 x25 (wrap64 (x26 + 1))) else (none)) else (none)) else (none)) else (none)) else (if 0 ≤ (wrap64 (x6 + (x1.length : Int))) then (if (wrap64 (x6 + (x1.length : Int))) < (x5.length : Int) then (nat_Mul.l0 k x1 (x5.set ((wrap64 (x6 + (x1.length : Int))) : Int).toNat ((x8) % 4294967296)) x17 x18 (wrap64 (x19 + 1))) else (none)) else (none))
end
def nat_Mul.f (k : Nat) (l0 : List Int) (l1 : List Int) : Option (List Int) := if 0 ≤ (wrap64 ((l0.length : Int) + (l1.length : Int))) then (if (wrap64 ((l0.length : Int) + (l1.length : Int)) : Int).toNat ≤ 70368744177664 then (nat_Mul.l0 k l1 (List.replicate (wrap64 ((l0.length : Int) + (l1.length : Int)) : Int).toNat 0) l0 (l0.length : Int) 0) else (none)) else (none)
set_option maxHeartbeats 8000000 in
set_option maxRecDepth 100000 in
theorem nat_Mul.calls (k : Nat) (A0 : Option Addr) (c0 : Nat) (l0 : List Int) (A1 : Option Addr) (c1 : Nat) (l1 : List Int) (r : List Int) (w : World) (hr0 : Kd.C (Kd.int .u32) w A0 l0.length l0) (hc0 : l0.length ≤ c0) (hr1 : Kd.C (Kd.int .u32) w A1 l1.length l1) (hc1 : l1.length ≤ c1) (h : nat_Mul.f k l0 l1 = some r) :
  Calls Try.prog 66 #[.slice A0 l0.length c0, .slice A1 l1.length c1] w fun e w' => ∃ v0_ : Value, e = .returned (v0_) ∧ Kd.R (Kd.int .u32) 89 w' w.heap.size (fun _ => True) v0_ r ∧ Below w.heap.size w w' := by
 have HR0 := Aside0.mk hr0
 have HC0 := Aside0.mk hc0
 clear hr0 hc0
 have HR1 := Aside0.mk hr1
 have HC1 := Aside0.mk hc1
 clear hr1 hc1
 have HB := Aside0.mk (Below.refl w.heap.size w)
 have H : (if 0 ≤ (wrap64 ((l0.length : Int) + (l1.length : Int))) then (if (wrap64 ((l0.length : Int) + (l1.length : Int)) : Int).toNat ≤ 70368744177664 then (nat_Mul.l0 k l1 (List.replicate (wrap64 ((l0.length : Int) + (l1.length : Int)) : Int).toNat 0) l0 (l0.length : Int) 0) else (none)) else (none)) = some r := h
 clear h
 obtain ⟨ji3, hji3⟩ : ∃ j_ : Int, (wrap64 ((l0.length : Int) + (l1.length : Int))) = j_ := ⟨_, rfl⟩
 replace H : (if 0 ≤ (ji3) then (if (ji3 : Int).toNat ≤ 70368744177664 then (nat_Mul.l0 k l1 (List.replicate (ji3 : Int).toNat 0) l0 (l0.length : Int) 0) else (none)) else (none)) = some r := by first | (rw [hji3] at H; exact H) | (simp only [hji3] at H ⊢; exact H)
 have hji3w : (IntKind.i64.wrap ((l0.length : Int) + (l1.length : Int))) = ji3 := (i64_w _).trans hji3
 by_cases c4 : 0 ≤ (ji3)
 ·rw [if_pos c4] at H
  have c4b0 := eq_true c4
  have c4b1 : decide (0 ≤ (ji3)) = true := decide_eq_true c4
  clear c4
  by_cases c5 : (ji3 : Int).toNat ≤ 70368744177664
  ·rw [if_pos c5] at H
   have c5b0 := eq_true c5
   have c5b1 : decide ((ji3 : Int).toNat ≤ 70368744177664) = true := decide_eq_true c5
   clear c5
   obtain ⟨y238, hy238⟩ : ∃ y_ : List Int, y_ = (List.replicate (ji3 : Int).toNat 0) := ⟨_, rfl⟩
   replace H : (nat_Mul.l0 k l1 y238 l0 (l0.length : Int) 0) = some r := by first | (rw [hy238]; with_reducible exact H) | (have H2_ := (Option.bind_some _ _).symm.trans H; rw [hy238]; with_reducible exact H2_) | (have H2_ := (Option.bind_some _ _).symm.trans H; with_reducible exact H2_) | with_reducible exact H | (rw [hy238]; exact H) | exact H
   have Ny238 := Aside0.mk hy238
   clear hy238
   have H' := Aside0.mk H
   clear H
   go_enter Try.func66, Try.ntmps66
   go_wp2_with (first | ((with_reducible refine gate_dst (N := 16) rfl ?_); refine Kd.R_make (Kd.int .u32) _ 89 rfl (N := 16) rfl 23 _ _ rfl ji3 rfl rfl Try.underlying23 (.int .u32 0) 4 info89 rfl (by decide) (by omega) 0 (ok := fun _ => True) (okp := fun _ => True) rfl (fun _ hk => hk) trivial (of_decide_eq_true (by first | (with_reducible assumption) | assumption)) (Nat.le_trans (Nat.mul_le_mul_right _ (of_decide_eq_true (by first | (with_reducible assumption) | assumption) : ji3.toNat ≤ 70368744177664)) (by omega)) (Below.refl _ _) (Nat.le_refl _) ?_; intro v239 w6 ho7 hb hg_ hnew_; clear hg_ hnew_; (first | rw [← Ny238.out] at ho7 | (simp only [Int.reduceToNat] at ho7; rw [← Ny238.out] at ho7)); have HO240 := Aside0.mk (Kd.R_lower ho7 (below_size (by repeat (first | (with_reducible first | exact HB.out | apply below_alloc | apply pw_below_drewN | apply below_drew1) | exact HB.out)))); replace HB := Aside0.mk (below_step (by repeat (first | (with_reducible first | exact HB.out | apply below_alloc | apply pw_below_drewN | apply below_drew1) | exact HB.out)) hb); clear hb ho7))
   go_loopg [19] k (fun kq v19 w' => ∃ (x5_1 : List Int) (x19_1 : Int), v19 = .int .i64 x19_1 ∧ Aside0 (nat_Mul.l0 kq l1 x5_1 l0 (l0.length : Int) x19_1 = some r) ∧ Aside0 (kq ≤ k) ∧ Aside0 (Kd.R (Kd.int .u32) 89 w' w.heap.size (fun _ => True) v239 x5_1) ∧ Aside0 (Below w.heap.size w w'))
   case atStart => exact ⟨(y238), (0), (by first | rfl | (simp; done) | (simp [*]; done)), H', ⟨Nat.le_refl _⟩, ⟨by (with_reducible repeat (first | apply Kd.R_alloc | apply Kd.R_drewN | apply Kd.R_drew)); exact HO240.out⟩, ⟨by repeat (first | (with_reducible first | exact HB.out | apply below_alloc | apply pw_below_drewN | apply below_drew1) | exact HB.out)⟩⟩
   case round =>
    clear H'
    try clear c1
    try clear p2
    try clear c4
    try clear c4b0
    try clear c4b1
    try clear c5
    try clear c5b0
    try clear c5b1
    try clear c6
    try clear p6
    obtain ⟨x5_1, x19_1, rfl, HA, HK1, HO_5, HB⟩ := hrel
    cases gk with
    | zero => exact absurd HA.out (by simp [nat_Mul.l0])
    | succ k1 =>
     have H := HA.out
     clear HA
     simp only [nat_Mul.l0] at H
     by_cases c8 : x19_1 < (l0.length : Int)
     ·rw [if_pos c8] at H
      have c8b0 : decide (x19_1 < (l0.length : Int)) = true := decide_eq_true c8
      clear c8
      by_cases c9 : 0 ≤ x19_1
      ·rw [if_pos c9] at H
       have c9b0 : decide (0 ≤ x19_1) = true := decide_eq_true c9
       clear c9
       by_cases c10 : x19_1 < (l0.length : Int)
       ·rw [if_pos c10] at H
        have c10b0 : decide (x19_1 < (l0.length : Int)) = true := decide_eq_true c10
        clear c10
        have H' := Aside0.mk H
        clear H
        have p244 : 0 ≤ (x19_1 : Int) := of_decide_eq_true (by first | (with_reducible assumption) | assumption)
        have q244 : x19_1 < (l0.length : Int) := of_decide_eq_true (by first | (with_reducible assumption) | assumption)
        obtain ⟨ad244, e244, hx244_0⟩ := Kd.at_int HR0.out x19_1 p244 q244
        cases e244
        replace hx244_0 := (HB.out.cell (World.block_lt_of_cell? w _ hx244_0)).trans hx244_0
        replace p244 := eq_true p244
        replace q244 := eq_true q244
        go_wp2
        go_loopg [8, 26] k1 (fun kq v8 v26 w' => ∃ (x5_2 : List Int) (x8_2 : Int) (x26_2 : Int), v8 = .int .u64 x8_2 ∧ v26 = .int .i64 x26_2 ∧ Aside0 (nat_Mul.l1 kq l1 x5_2 x19_1 (rd l0 x19_1) x8_2 l0 (l0.length : Int) x19_1 l1 (l1.length : Int) x26_2 = some r) ∧ Aside0 (kq ≤ k1) ∧ Aside0 (Kd.R (Kd.int .u32) 89 w' w.heap.size (fun _ => True) v239 x5_2) ∧ Aside0 (Below w.heap.size w w'))
        case atStart => exact ⟨(x5_1), (0), (0), (by first | rfl | (simp; done) | (simp [*]; done)), (by first | rfl | (simp; done) | (simp [*]; done)), H', ⟨Nat.le_refl _⟩, ⟨by (with_reducible repeat (first | apply Kd.R_alloc | apply Kd.R_drewN | apply Kd.R_drew)); exact HO_5.out⟩, ⟨by repeat (first | (with_reducible first | exact HB.out | apply below_alloc | apply pw_below_drewN | apply below_drew1) | exact HB.out)⟩⟩
        case round =>
         clear H'
         try clear c1
         try clear p2
         try clear q2
         try clear hx2
         try clear c4
         try clear c4b0
         try clear c4b1
         try clear c5
         try clear c5b0
         try clear c5b1
         try clear c6
         try clear p6
         try clear c8
         try clear c8b0
         try clear c9
         try clear c9b0
         try clear c10
         try clear c10b0
         try clear hx244_0
         try clear p2
         try clear p244
         try clear p6
         try clear q244
         obtain ⟨x5_2, x8_2, x26_2, rfl, rfl, HA, HK2, HO_5, HB⟩ := hrel
         cases gk with
         | zero => exact absurd HA.out (by simp [nat_Mul.l1])
         | succ k2 =>
          have H := HA.out
          clear HA
          simp only [nat_Mul.l1] at H
          by_cases c11 : x26_2 < (l1.length : Int)
          ·rw [if_pos c11] at H
           have c11b0 : decide (x26_2 < (l1.length : Int)) = true := decide_eq_true c11
           clear c11
           by_cases c12 : 0 ≤ x26_2
           ·rw [if_pos c12] at H
            have c12b0 : decide (0 ≤ x26_2) = true := decide_eq_true c12
            clear c12
            by_cases c13 : x26_2 < (l1.length : Int)
            ·rw [if_pos c13] at H
             have c13b0 : decide (x26_2 < (l1.length : Int)) = true := decide_eq_true c13
             clear c13
             obtain ⟨ji14, hji14⟩ : ∃ j_ : Int, (wrap64 (x19_1 + x26_2)) = j_ := ⟨_, rfl⟩
             replace H : (if 0 ≤ (ji14) then (if (ji14) < (x5_2.length : Int) then (nat_Mul.l1 k2 l1 (x5_2.set ((ji14) : Int).toNat ((IntKind.u64.wrap (x8_2 + (IntKind.u64.wrap ((IntKind.u64.wrap ((IntKind.u64.wrap ((rd l0 x19_1))) * (IntKind.u64.wrap (rd l1 x26_2)))) + (IntKind.u64.wrap (rd x5_2 (ji14))))))) % 4294967296)) x19_1 (rd l0 x19_1) ((IntKind.u64.wrap (x8_2 + (IntKind.u64.wrap ((IntKind.u64.wrap ((IntKind.u64.wrap ((rd l0 x19_1))) * (IntKind.u64.wrap (rd l1 x26_2)))) + (IntKind.u64.wrap (rd x5_2 (ji14))))))) / 4294967296) l0 (l0.length : Int) x19_1 l1 (l1.length : Int) (wrap64 (x26_2 + 1))) else (none)) else (none)) = some r := by first | (rw [hji14] at H; exact H) | (simp only [hji14] at H ⊢; exact H)
             have hji14w : (IntKind.i64.wrap (x19_1 + x26_2)) = ji14 := (i64_w _).trans hji14
             by_cases c15 : 0 ≤ (ji14)
             ·rw [if_pos c15] at H
              have c15b0 : decide (0 ≤ (ji14)) = true := decide_eq_true c15
              clear c15
              by_cases c16 : (ji14) < (x5_2.length : Int)
              ·rw [if_pos c16] at H
               have c16b0 : decide ((ji14) < (x5_2.length : Int)) = true := decide_eq_true c16
               clear c16
               obtain ⟨y247, hy247⟩ : ∃ y_ : List Int, y_ = (x5_2.set ((ji14) : Int).toNat ((IntKind.u64.wrap (x8_2 + (IntKind.u64.wrap ((IntKind.u64.wrap ((IntKind.u64.wrap ((rd l0 x19_1))) * (IntKind.u64.wrap (rd l1 x26_2)))) + (IntKind.u64.wrap (rd x5_2 (ji14))))))) % 4294967296)) := ⟨_, rfl⟩
               replace H : (nat_Mul.l1 k2 l1 y247 x19_1 (rd l0 x19_1) ((IntKind.u64.wrap (x8_2 + (IntKind.u64.wrap ((IntKind.u64.wrap ((IntKind.u64.wrap ((rd l0 x19_1))) * (IntKind.u64.wrap (rd l1 x26_2)))) + (IntKind.u64.wrap (rd x5_2 (ji14))))))) / 4294967296) l0 (l0.length : Int) x19_1 l1 (l1.length : Int) (wrap64 (x26_2 + 1))) = some r := by first | (rw [hy247]; with_reducible exact H) | (have H2_ := (Option.bind_some _ _).symm.trans H; rw [hy247]; with_reducible exact H2_) | (have H2_ := (Option.bind_some _ _).symm.trans H; with_reducible exact H2_) | with_reducible exact H | (rw [hy247]; exact H) | exact H
               have Ny247 := Aside0.mk hy247
               clear hy247
               have H' := Aside0.mk H
               clear H
               have p245 : 0 ≤ (x26_2 : Int) := of_decide_eq_true (by first | (with_reducible assumption) | assumption)
               have q245 : x26_2 < (l1.length : Int) := of_decide_eq_true (by first | (with_reducible assumption) | assumption)
               obtain ⟨ad245, e245, hx245_0⟩ := Kd.at_int HR1.out x26_2 p245 q245
               cases e245
               replace hx245_0 := (HB.out.cell (World.block_lt_of_cell? w _ hx245_0)).trans hx245_0
               replace p245 := eq_true p245
               replace q245 := eq_true q245
               obtain ⟨Ao18, co18, eo18⟩ := Kd.R_slice HO_5.out
               subst eo18
               have p246 : 0 ≤ ((ji14) : Int) := of_decide_eq_true (by first | (with_reducible assumption) | assumption)
               have q246 : (ji14) < (x5_2.length : Int) := of_decide_eq_true (by first | (with_reducible assumption) | assumption)
               obtain ⟨ad246, e246, hx246_0⟩ := Kd.at_int (Kd.R_reads' HO_5.out).2.2 (ji14) p246 q246
               cases e246
               replace p246 := eq_true p246
               replace q246 := eq_true q246
               have p17 : 0 ≤ ((ji14) : Int) := of_decide_eq_true (by first | (with_reducible assumption) | assumption)
               have q17 : ((ji14) : Int) < ((x5_2.length : Int) : Int) := of_decide_eq_true (by first | (with_reducible assumption) | assumption)
               obtain ⟨go17, co17, eo17, gb17, gl17, cl17, HG17⟩ := Kd.R_form HO_5.out (by omega)
               (first | cases eo17 | (injection eo17 with ea_ en_ ec_; (first | subst ea_ | (injection ea_ with ea_; subst ea_)); subst ec_; clear en_))
               have GB17 := Aside0.mk gb17
               have GG17 := Aside0.mk HG17
               clear gb17 gl17 HG17
               (first | simp only [add_plain] at hx246_0 | skip)
               obtain ⟨hx17_0, hf17_0⟩ := Kd.R_celln 0 HO_5.out ((ji14) : Int) p17 q17
               replace p17 := eq_true p17
               replace q17 := eq_true q17
               have HP19 := Kd.R_putg HO_5.out ((ji14) : Int) ((IntKind.u64.wrap (x8_2 + (IntKind.u64.wrap ((IntKind.u64.wrap ((IntKind.u64.wrap ((rd l0 x19_1))) * (IntKind.u64.wrap (rd l1 x26_2)))) + (IntKind.u64.wrap (rd x5_2 (ji14))))))) % 4294967296)
               go_wp2_with (first | ((with_reducible refine gate_store (t := 89) (p := 52) rfl ?_); refine store_event (t := 89) (p := 52) (v := ?vo_w20) (w1 := (wr.setCell ⟨go17, ((ji14) : Int).toNat, none⟩ (.int .u32 ((IntKind.u64.wrap (x8_2 + (IntKind.u64.wrap ((IntKind.u64.wrap ((IntKind.u64.wrap ((rd l0 x19_1))) * (IntKind.u64.wrap (rd l1 x26_2)))) + (IntKind.u64.wrap (rd x5_2 (ji14))))))) % 4294967296)))) ?hg ?ho ?hn ?hr ?_; (case ho => rfl); (case hg => rfl); (case hn => rfl); (case hr => first | (go_simp; done) | (go_simp; rfl)); intro w20 hw; have hg : wr.grownBy w20 (some go17) := (by rw [hw]; exact HP19.2); have hp_ : Kd.R (Kd.int .u32) 89 w20 w.heap.size (fun _ => True) (.slice (some ⟨go17, 0, none⟩) x5_2.length co18) y247 := (by rw [hw, Ny247.out]; exact HP19.1); clear HP19; replace HO_5 := Aside0.mk (hp_); replace HB := Aside0.mk ((by rw [hw]; exact below_set (HB.out) GB17.out : Below w.heap.size w w20)); clear hg hw hp_))
               go_roundg k2
               case measure => have := HK1.out; have := HK2.out; omega
               case rel => exact ⟨(y247), ((IntKind.u64.wrap (x8_2 + (IntKind.u64.wrap ((IntKind.u64.wrap ((IntKind.u64.wrap ((rd l0 x19_1))) * (IntKind.u64.wrap (rd l1 x26_2)))) + (IntKind.u64.wrap (rd x5_2 (ji14))))))) / 4294967296), (wrap64 (x26_2 + 1)), (by first | rfl | (simp; done) | (simp only [← hji14] <;> (first | rfl | simp)) | (simp [*]; done)), (by first | rfl | (simp; done) | (simp [*]; done)), H', ⟨by have := HK1.out; have := HK2.out; omega⟩, ⟨by (with_reducible repeat (first | apply Kd.R_alloc | apply Kd.R_drewN | apply Kd.R_drew)); exact HO_5.out⟩, ⟨by repeat (first | (with_reducible first | exact HB.out | apply below_alloc | apply pw_below_drewN | apply below_drew1) | exact HB.out)⟩⟩
              ·rw [if_neg c16] at H
               exact absurd H (by simp)
             ·rw [if_neg c15] at H
              exact absurd H (by simp)
            ·rw [if_neg c13] at H
             exact absurd H (by simp)
           ·rw [if_neg c12] at H
            exact absurd H (by simp)
          ·rw [if_neg c11] at H
           have c11b0 : decide (x26_2 < (l1.length : Int)) = false := decide_eq_false c11
           clear c11
           obtain ⟨ji21, hji21⟩ : ∃ j_ : Int, (wrap64 (x19_1 + (l1.length : Int))) = j_ := ⟨_, rfl⟩
           replace H : (if 0 ≤ (ji21) then (if (ji21) < (x5_2.length : Int) then (nat_Mul.l0 k2 l1 (x5_2.set ((ji21) : Int).toNat ((x8_2) % 4294967296)) l0 (l0.length : Int) (wrap64 (x19_1 + 1))) else (none)) else (none)) = some r := by first | (rw [hji21] at H; exact H) | (simp only [hji21] at H ⊢; exact H)
           have hji21w : (IntKind.i64.wrap (x19_1 + (l1.length : Int))) = ji21 := (i64_w _).trans hji21
           by_cases c22 : 0 ≤ (ji21)
           ·rw [if_pos c22] at H
            have c22b0 : decide (0 ≤ (ji21)) = true := decide_eq_true c22
            clear c22
            by_cases c23 : (ji21) < (x5_2.length : Int)
            ·rw [if_pos c23] at H
             have c23b0 : decide ((ji21) < (x5_2.length : Int)) = true := decide_eq_true c23
             clear c23
             obtain ⟨y248, hy248⟩ : ∃ y_ : List Int, y_ = (x5_2.set ((ji21) : Int).toNat ((x8_2) % 4294967296)) := ⟨_, rfl⟩
             replace H : (nat_Mul.l0 k2 l1 y248 l0 (l0.length : Int) (wrap64 (x19_1 + 1))) = some r := by first | (rw [hy248]; with_reducible exact H) | (have H2_ := (Option.bind_some _ _).symm.trans H; rw [hy248]; with_reducible exact H2_) | (have H2_ := (Option.bind_some _ _).symm.trans H; with_reducible exact H2_) | with_reducible exact H | (rw [hy248]; exact H) | exact H
             have Ny248 := Aside0.mk hy248
             clear hy248
             have H' := Aside0.mk H
             clear H
             have p24 : 0 ≤ ((ji21) : Int) := of_decide_eq_true (by first | (with_reducible assumption) | assumption)
             have q24 : ((ji21) : Int) < ((x5_2.length : Int) : Int) := of_decide_eq_true (by first | (with_reducible assumption) | assumption)
             obtain ⟨go24, co24, eo24, gb24, gl24, cl24, HG24⟩ := Kd.R_form HO_5.out (by omega)
             (first | cases eo24 | (injection eo24 with ea_ en_ ec_; (first | subst ea_ | (injection ea_ with ea_; subst ea_)); subst ec_; clear en_))
             have GB24 := Aside0.mk gb24
             have GG24 := Aside0.mk HG24
             clear gb24 gl24 HG24
             obtain ⟨hx24_0, hf24_0⟩ := Kd.R_celln 0 HO_5.out ((ji21) : Int) p24 q24
             replace p24 := eq_true p24
             replace q24 := eq_true q24
             have HP25 := Kd.R_putg HO_5.out ((ji21) : Int) ((x8_2) % 4294967296)
             go_wp2_with (first | ((with_reducible refine gate_store (t := 89) (p := 63) rfl ?_); refine store_event (t := 89) (p := 63) (v := ?vo_w26) (w1 := (wr.setCell ⟨go24, ((ji21) : Int).toNat, none⟩ (.int .u32 ((x8_2) % 4294967296)))) ?hg ?ho ?hn ?hr ?_; (case ho => rfl); (case hg => rfl); (case hn => rfl); (case hr => first | (go_simp; done) | (go_simp; rfl)); intro w26 hw; have hg : wr.grownBy w26 (some go24) := (by rw [hw]; exact HP25.2); have hp_ : Kd.R (Kd.int .u32) 89 w26 w.heap.size (fun _ => True) (.slice (some ⟨go24, 0, none⟩) x5_2.length co24) y248 := (by rw [hw, Ny248.out]; exact HP25.1); clear HP25; replace HO_5 := Aside0.mk (hp_); replace HB := Aside0.mk ((by rw [hw]; exact below_set (HB.out) GB24.out : Below w.heap.size w w26)); clear hg hw hp_))
             go_roundg k2
             case measure => have := HK1.out; have := HK2.out; omega
             case rel => exact ⟨(y248), (wrap64 (x19_1 + 1)), (by first | rfl | (simp; done) | (simp [*]; done)), H', ⟨by have := HK1.out; have := HK2.out; omega⟩, ⟨by (with_reducible repeat (first | apply Kd.R_alloc | apply Kd.R_drewN | apply Kd.R_drew)); exact HO_5.out⟩, ⟨by repeat (first | (with_reducible first | exact HB.out | apply below_alloc | apply pw_below_drewN | apply below_drew1) | exact HB.out)⟩⟩
            ·rw [if_neg c23] at H
             exact absurd H (by simp)
           ·rw [if_neg c22] at H
            exact absurd H (by simp)
       ·rw [if_neg c10] at H
        exact absurd H (by simp)
      ·rw [if_neg c9] at H
       exact absurd H (by simp)
     ·rw [if_neg c8] at H
      have c8b0 : decide (x19_1 < (l0.length : Int)) = false := decide_eq_false c8
      clear c8
      replace H := Option.bind_eq_some_iff.mp H
      obtain ⟨t241, A270, H⟩ := H
      replace H : (some t241) = some r := H
      have A27 := Aside0.mk A270
      clear A270
      obtain rfl := Option.some.inj H
      obtain ⟨Ao28, co28, eo28⟩ := Kd.R_slice HO_5.out
      subst eo28
      go_wp2_with (first | ((with_reducible refine gate_callee (f := 71) rfl ?_); refine Short.goesS_ (some 66) Try.func71 #[.slice Ao28 x5_1.length co28] ?_; (with_reducible refine (nat_trim.calls k1 _ _ x5_1 t241 _ ((Kd.R_reads' HO_5.out).2.2) ((Kd.R_reads' HO_5.out).2.1) A27.out).mono ?_); rintro e w29 ⟨v242, rfl, ho0, hb⟩; refine ⟨_, rfl, ?_⟩; have HO243 := Aside0.mk (Kd.R_lower (Kd.R_new' ho0 (Kd.R_lt HO_5.out)) (below_size (by repeat (first | (with_reducible first | exact HB.out | apply below_alloc | apply pw_below_drewN | apply below_drew1) | exact HB.out)))); replace HO_5 := Aside0.mk (Kd.R_elder' HO_5.out (Kd.R_base ho0) hb); replace HB := Aside0.mk (below_step (by repeat (first | (with_reducible first | exact HB.out | apply below_alloc | apply pw_below_drewN | apply below_drew1) | exact HB.out)) hb); (try clear hb); (try clear ho0)))
      go_ret
      exact ⟨_, by first | rfl | (simp [errW_none, errW_some] <;> rfl) | (simp only [← hji3]; first | rfl | (simp [errW_none, errW_some] <;> rfl)) | (simp [*, errW_none, errW_some] <;> rfl), by (with_reducible repeat (first | apply Kd.R_alloc | apply Kd.R_drewN | apply Kd.R_drew)); exact Kd.R_mono HO243.out (fun _ hk => trivial), by repeat (first | (with_reducible first | exact HB.out | apply below_alloc | apply pw_below_drewN | apply below_drew1) | exact HB.out)⟩
  ·rw [if_neg c5] at H
   exact absurd H (by simp)
 ·rw [if_neg c4] at H
  exact absurd H (by simp)

theorem nat_Mul.ev_in {a b : List Int} (ha : Num.Ws a) (hb : Num.Ws b) (hla : a.length < 1099511627776) (hlb : b.length < 1099511627776) {i p : Nat} (hi : i < a.length) (hp : p < 4294967296) (y : List Int) (R : List Int)
  (hend : ∀ x : List Int, x.length = a.length + b.length → Num.Ws x → ∀ c : Nat, c < 4294967296 → (∀ t, i + b.length ≤ t → x.getD t 0 = y.getD t 0) → Num.nv x + 2 ^ (32 * (i + b.length)) * c = Num.nv y + 2 ^ (32 * i) * (p * Num.nv b) →
   Ev (fun k => nat_Mul.l0 k b (x.set (i + b.length) ((c : Int) % 4294967296)) a (a.length : Int) ((i + 1 : Nat) : Int)) R) (d : Nat) :
  ∀ (j : Nat) (x : List Int) (c : Nat), j + d = b.length → x.length = a.length + b.length → Num.Ws x → c < 4294967296 → (∀ t, i + j ≤ t → x.getD t 0 = y.getD t 0) → Num.nv x + 2 ^ (32 * (i + j)) * c = Num.nv y + 2 ^ (32 * i) * (p * Num.nv (b.take j)) →
   Ev (fun k => nat_Mul.l1 k b x (i : Int) (p : Int) (c : Int) a (a.length : Int) (i : Int) b (b.length : Int) (j : Int)) R := by
 induction d with
 | zero =>
  intro j x c hj hx hW hc hs hv
  obtain rfl : j = b.length := by omega
  rw [List.take_length] at hv
  have c1 : ¬ (b.length : Int) < (b.length : Int) := by omega
  have c2 : 0 ≤ ((i + b.length : Nat) : Int) := by omega
  have c3 : ((i + b.length : Nat) : Int) < (x.length : Int) := by omega
  have b1 : i + b.length < 9223372036854775808 := by omega
  have b2 : i + 1 < 9223372036854775808 := by omega
  refine Ev.step (f := fun k => nat_Mul.l0 k b (x.set (i + b.length) ((c : Int) % 4294967296)) a (a.length : Int) ((i + 1 : Nat) : Int)) (fun k => ?_) (hend x hx hW c hc hs hv)
  simp only [nat_Mul.l1, w64_add i b.length b1, w64_succ i b2]
  rw [if_neg c1, if_pos c2, if_pos c3, Int.toNat_natCast]
 | succ d ih =>
  intro j x c hj hx hW hc hs hv
  have hgb := hb.getD j
  have hgx := hW.getD (i + j)
  obtain ⟨q, hq⟩ : ∃ q : Nat, (q : Int) = b.getD j 0 := ⟨(b.getD j 0).toNat, by omega⟩
  obtain ⟨u, hu⟩ : ∃ u : Nat, (u : Int) = x.getD (i + j) 0 := ⟨(x.getD (i + j) 0).toNat, by omega⟩
  have hpq : p * q ≤ 4294967295 * 4294967295 := Nat.mul_le_mul (by omega) (by omega)
  have b0 : i + j < 9223372036854775808 := by omega
  have b1 : j + 1 < 9223372036854775808 := by omega
  have b2 : p < 18446744073709551616 := by omega
  have b3 : q < 18446744073709551616 := by omega
  have b4 : u < 18446744073709551616 := by omega
  have b5 : p * q < 18446744073709551616 := by omega
  have b6 : p * q + u < 18446744073709551616 := by omega
  have b7 : c + (p * q + u) < 18446744073709551616 := by omega
  have b8 : (c + (p * q + u)) / 4294967296 < 4294967296 := by omega
  have c1 : (j : Int) < (b.length : Int) := by omega
  have c2 : 0 ≤ (j : Int) := by omega
  have c4 : 0 ≤ ((i + j : Nat) : Int) := by omega
  have c5 : ((i + j : Nat) : Int) < (x.length : Int) := by omega
  refine Ev.step (f := fun k => nat_Mul.l1 k b (x.set (i + j) (((c + (p * q + u)) % 4294967296 : Nat) : Int)) (i : Int) (p : Int) (((c + (p * q + u)) / 4294967296 : Nat) : Int) a (a.length : Int) (i : Int) b (b.length : Int) ((j + 1 : Nat) : Int)) (fun k => ?_) ?_
  ·simp only [nat_Mul.l1, w64_add i j b0, w64_succ j b1]
   rw [if_pos c1, if_pos c2, if_pos c1, if_pos c4, if_pos c5, rd_at hq, rd_at hu, u64_nat p b2, u64_nat q b3, u64_nat u b4, u64_mul p q b5, u64_add (p * q) u b6, u64_add c (p * q + u) b7, mod32_nat, div32_nat, Int.toNat_natCast]
  ·refine ih (j + 1) _ _ (by omega) (by rw [List.length_set]; exact hx) (hW.set _ (by omega) (by omega)) b8 ?_ ?_
   ·intro t ht
    rw [← hs t (by omega), List.getD_eq_getElem?_getD, List.getElem?_set_ne (by omega), ← List.getD_eq_getElem?_getD]
   ·have v1 := Num.nv_set (l := x) (i := i + j) (by omega) (((c + (p * q + u)) % 4294967296 : Nat) : Int)
    rw [← hu, Int.toNat_natCast, Int.toNat_natCast] at v1
    have hsp := Num.split_mul (2 ^ (32 * (i + j))) (c + (p * q + u))
    have h2 : 2 ^ (32 * (i + j)) * (c + (p * q + u)) = 2 ^ (32 * (i + j)) * c + (2 ^ (32 * (i + j)) * (p * q) + 2 ^ (32 * (i + j)) * u) := by rw [Nat.mul_add (2 ^ (32 * (i + j))), Nat.mul_add (2 ^ (32 * (i + j)))]
    have h3 : 2 ^ (32 * i) * (p * Num.nv (b.take (j + 1))) = 2 ^ (32 * i) * (p * Num.nv (b.take j)) + 2 ^ (32 * (i + j)) * (p * q) := by
     have h4 : 2 ^ (32 * (i + j)) = 2 ^ (32 * i) * 2 ^ (32 * j) := by rw [← Nat.pow_add]; congr 1; omega
     rw [Num.nv_take_succ, ← hq, Int.toNat_natCast, h4, Nat.mul_add p, Nat.mul_add (2 ^ (32 * i)), Nat.mul_left_comm p, Nat.mul_assoc]
    rw [h3, show i + (j + 1) = i + j + 1 from rfl, Num.pow_succ32]
    omega
theorem nat_Mul.ev_out {a b : List Int} (ha : Num.Ws a) (hb : Num.Ws b) (hla : a.length < 1099511627776) (hlb : b.length < 1099511627776) (d : Nat) : ∀ (i : Nat) (x : List Int), i + d = a.length → x.length = a.length + b.length → Num.Ws x →
  Num.nv x = Num.nv (a.take i) * Num.nv b → Ev (fun k => nat_Mul.l0 k b x a (a.length : Int) (i : Int)) (Num.nd (Num.nv a * Num.nv b)) := by
 induction d with
 | zero =>
  intro i x hi hx hW hv
  obtain rfl : i = a.length := by omega
  rw [List.take_length] at hv
  have c1 : ¬ (a.length : Int) < (a.length : Int) := by omega
  refine Ev.step (f := fun k => (nat_trim.f k x).bind fun t => some t) (fun k => ?_) ?_
  ·simp only [nat_Mul.l0]
   rw [if_neg c1]
  ·rw [← hv]
   exact Ev.bind (nat_trim.ev hW (by omega)) (Ev.now _)
 | succ d ih =>
  intro i x hi hx hW hv
  have hga := ha.getD i
  obtain ⟨p, hp⟩ : ∃ p : Nat, (p : Int) = a.getD i 0 := ⟨(a.getD i 0).toNat, by omega⟩
  have c1 : (i : Int) < (a.length : Int) := by omega
  have c2 : 0 ≤ (i : Int) := by omega
  have htk := Num.nv_take_lt ha i (by omega)
  have hbl := Num.nv_lt hb
  refine Ev.step (f := fun k => nat_Mul.l1 k b x (i : Int) (p : Int) 0 a (a.length : Int) (i : Int) b (b.length : Int) 0) (fun k => ?_) ?_
  ·simp only [nat_Mul.l0]
   rw [if_pos c1, if_pos c2, if_pos c1, rd_at hp]
  ·refine nat_Mul.ev_in ha hb hla hlb (by omega) (by omega) x _ ?_ b.length 0 x 0 (by omega) hx hW (by omega) (fun t _ => rfl) (by simp [Num.nv])
   intro x' hx' hW' c hc hs hv'
   have e : (c : Int) % 4294967296 = (c : Int) := by omega
   rw [e]
   -- the word at i + b.length was a nought
   have hxlt : Num.nv x < 2 ^ (32 * (i + b.length)) * 1 := by
    rw [hv, Nat.mul_one, show 32 * (i + b.length) = 32 * i + 32 * b.length from by omega, Nat.pow_add]
    exact Nat.mul_lt_mul'' htk hbl
   have h0 := (Num.nv_top (l := x) (j := i + b.length) (R := 1) (by omega) (by omega) hxlt).1
   have hz : x'.getD (i + b.length) 0 = x.getD (i + b.length) 0 := hs _ (Nat.le_refl _)
   have v1 := Num.nv_set (l := x') (i := i + b.length) (by omega) (c : Int)
   rw [hz, show (x.getD (i + b.length) 0).toNat = 0 from by omega, Nat.mul_zero, Nat.add_zero, Int.toNat_natCast] at v1
   refine ih (i + 1) _ (by omega) (by rw [List.length_set]; exact hx') (hW'.set _ (by omega) (by omega)) ?_
   rw [v1, hv', hv, Num.nv_take_succ, ← hp, Int.toNat_natCast, Nat.add_mul, Nat.mul_assoc (2 ^ (32 * i))]
theorem nat_Mul.ev {a b : List Int} (ha : Num.okw a = true) (hb : Num.okw b = true) : Ev (fun k => nat_Mul.f k a b) (Num.nd (Num.nv a * Num.nv b)) := by
 obtain ⟨la, wa⟩ := (Num.okw_iff a).1 ha
 obtain ⟨lb, wb⟩ := (Num.okw_iff b).1 hb
 have h := nat_Mul.ev_out wa wb la lb a.length 0 (List.replicate (a.length + b.length) 0) (by omega) (by simp) (Num.Ws.replicate _) (by simp [Num.nv, Num.nv_replicate])
 have b1 : a.length + b.length < 9223372036854775808 := by omega
 have c1 : 0 ≤ ((a.length + b.length : Nat) : Int) := by omega
 have c2 : a.length + b.length ≤ 70368744177664 := by omega
 refine Ev.congr (fun k => ?_) h
 unfold nat_Mul.f
 rw [w64_add _ _ b1, if_pos c1, Int.toNat_natCast, if_pos c2]
 rfl
set_option synthInstance.checkSynthOrder false in
open Lin in
instance nat_Mul.t {k : Nat} {l0 : List Int} {l1 : List Int} {r : List Int} [h : Ans (nat_Mul.f k l0 l1) r] : Tl Try.prog 66 [.one (.row l0), .one (.row l1)] (.el (.one (.row r))) := ⟨Tells.of Try.func66 fun out w vs ho hl hv => by
 obtain ⟨u0, u1, rfl, h0, h1⟩ := args2 hl hv
 obtain ⟨A0, c0, rfl, hc0, hr0, hb0⟩ := h0
 obtain ⟨A1, c1, rfl, hc1, hr1, hb1⟩ := h1
 refine (nat_Mul.calls k A0 c0 l0 A1 c1 l1 _ w hr0 hc0 hr1 hc1 h.out).mono ?_
 rintro e w' ⟨v0_, rfl, gv0_, hb⟩
 exact ⟨_, rfl, row_R gv0_ ho, hb⟩⟩
def whole_Sign.f (k : Nat) (a0_0 : Bool) (l0_1 : List Int) : Option (Int) := (whole_Make.f k a0_0 l0_1).bind fun bt136 => (if (bt136.2.length : Int) = 0 then (some 0) else (if bt136.1 = true then (some (-1)) else (some 1)))
theorem whole_Sign.ev {m : Bool} {l : List Int} {z : Int} {K : Nat} (h : Zn.Is m l z K) (hK : K < 1000000) : Ev (fun k => whole_Sign.f k m l) z.sign := by
 unfold whole_Sign.f
 refine Ev.bind (whole_Make.ev h hK) ?_
 show Ev (fun _ => if ((Num.nd z.natAbs).length : Int) = 0 then some 0 else if decide (z < 0) = true then some (-1) else some 1) _
 have hp := Zn.nd_len_pos z.natAbs
 rcases Zn.sign_cases z with ⟨hz, e⟩ | ⟨hz, e⟩ | ⟨hz, e⟩ <;> rw [e]
 ·have := hp.2 (by omega)
  exact Dec.no (by omega) (Dec.yes (decide_eq_true hz) (Ev.now _))
 ·subst hz
  exact Dec.yes (by rw [show (0 : Int).natAbs = 0 from rfl, Num.nd_zero]; rfl) (Ev.now _)
 ·have := hp.2 (by omega)
  exact Dec.no (by omega) (Dec.no (by rw [decide_eq_false (by omega)]; decide) (Ev.now _))
set_option synthInstance.checkSynthOrder false in
open Lin in
set_option maxHeartbeats 4000000 in
instance whole_Sign.t {k : Nat} {a0_0 : Bool} {l0_1 : List Int} {r : Int} [h : Ans (whole_Sign.f k a0_0 l0_1) r] : Tl Try.prog 49 [.agg [.val (.bool a0_0), .row l0_1]] (.el (.one (.val (.int .i64 r)))) := by
 have h := h.out
 unfold whole_Sign.f at h
 repeat' (first | (replace h := Lin.bndK h) | (replace h := Lin.bnd h; obtain ⟨_, _, h⟩ := h) | split at h | cases h)
 all_goals exact ⟨Tells.go Try.func49 Try.ntmps49⟩
def whole_Mul.f (k : Nat) (a0_0 : Bool) (l0_1 : List Int) (a1_0 : Bool) (l1_1 : List Int) : Option (Bool × List Int) := (whole_Sign.f k a0_0 l0_1).bind fun t252 => ((whole_Sign.f k a1_0 l1_1).bind fun t253 => ((nat_Mul.f k l0_1 l1_1).bind fun t254 => ((whole_Make.f k (decide ((wrap64 (t252 * t253)) < 0)) t254).bind fun bt257 => (some (bt257.1, bt257.2)))))
theorem whole_Mul.ev {m m' : Bool} {l l' : List Int} {a b : Int} {K J : Nat} (ha : Zn.Is m l a K) (hb : Zn.Is m' l' b J) (hK : K + J < 1000000) : Ev (fun k => whole_Mul.f k m l m' l') (Zn.zd (a * b)) := by
 have M := nat_Mul.ev (ha.ok (by omega)) (hb.ok (by omega))
 rw [← ha.abs, ← hb.abs] at M
 unfold whole_Mul.f
 refine Ev.bind (whole_Sign.ev ha (by omega)) (Ev.bind (whole_Sign.ev hb (by omega)) (Ev.bind M ?_))
 have d : decide (wrap64 (a.sign * b.sign) < 0) = decide (a * b < 0) := by rw [Zn.w64_sign]; exact decide_eq_decide.2 (Zn.sign_mul_neg a b)
 have R := whole_Make.ev (Zn.Is.nd (m := decide (a * b < 0)) (Num.mul_lt ha.lt hb.lt)) hK
 rw [Zn.mul_sign] at R
 refine Ev.congr (fun k => ?_) (Ev.bind R (Ev.now _))
 rw [d]
set_option synthInstance.checkSynthOrder false in
open Lin in
set_option maxHeartbeats 4000000 in
instance whole_Mul.t {k : Nat} {a0_0 : Bool} {l0_1 : List Int} {a1_0 : Bool} {l1_1 : List Int} {r : Bool × List Int} [h : Ans (whole_Mul.f k a0_0 l0_1 a1_0 l1_1) r] : Tl Try.prog 67 [.agg [.val (.bool a0_0), .row l0_1], .agg [.val (.bool a1_0), .row l1_1]] (.el (.agg [.val (.bool r.1), .row r.2])) := by
 have h := h.out
 unfold whole_Mul.f at h
 repeat' (first | (replace h := Lin.bndK h) | (replace h := Lin.bnd h; obtain ⟨_, _, h⟩ := h) | split at h | cases h)
 all_goals exact ⟨Tells.go Try.func67 Try.ntmps67⟩
def rat_Mul.f (k : Nat) (a0_0 : Bool) (l0_1 : List Int) (l0_2 : List Int) (a1_0 : Bool) (l1_1 : List Int) (l1_2 : List Int) : Option (Bool × List Int × List Int) := (whole_Mul.f k a0_0 l0_1 a1_0 l1_1).bind fun bt464 => ((rat_den.f k a0_0 l0_1 l0_2).bind fun t468 => ((rat_den.f k a1_0 l1_1 l1_2).bind fun t471 => ((nat_Mul.f k t468 t471).bind fun t474 => ((rat_Make.f k bt464.1 bt464.2 t474).bind fun bt477 => (some (bt477.1, bt477.2.1, bt477.2.2))))))
theorem rat_Mul.ev {m m' : Bool} {l1 l2 k1 k2 : List Int} {a b : Rat} {K J : Nat} (ha : Qn.Is m l1 l2 a K) (hb : Qn.Is m' k1 k2 b J) (hK1 : 1 ≤ K) (hJ1 : 1 ≤ J) (hK : K + J < 400000) : Ev (fun k => rat_Mul.f k m l1 l2 m' k1 k2) (Qn.qd (a * b)) := by
 have da := Qn.dn_lt ha.ws ha.len hK1
 have db := Qn.dn_lt hb.ws hb.len hJ1
 have la := ha.len
 have lb := hb.len
 have La := Qn.len_dl la hK1
 have Lb := Qn.len_dl lb hJ1
 have P := nat_Mul.ev (Num.okw_of (l := Qn.dl l2) (by omega) (Qn.ws_dl ha.ws)) (Num.okw_of (l := Qn.dl k2) (by omega) (Qn.ws_dl hb.ws))
 rw [Qn.nv_dl, Qn.nv_dl] at P
 have M := rat_Make.ev (Zn.Is.zd (Zn.abs_mul ha.num.lt hb.num.lt)) (Num.Ws_nd (Qn.dn (Num.nv l2) * Qn.dn (Num.nv k2))) (Num.nd_length_le (Num.mul_lt da db)) (by omega) hK
 rw [Num.nv_nd, Qn.dn_self (Nat.mul_ne_zero (Qn.dn_ne _) (Qn.dn_ne _)), ← Rat.mkRat_mul_mkRat, ha.val, hb.val] at M
 unfold rat_Mul.f
 exact Ev.bind (whole_Mul.ev ha.num hb.num (by omega)) (Ev.bind (rat_den.ev ha.ws (by omega)) (Ev.bind (rat_den.ev hb.ws (by omega)) (Ev.bind P (Ev.bind M (Ev.now _)))))
set_option synthInstance.checkSynthOrder false in
open Lin in
set_option maxHeartbeats 4000000 in
instance rat_Mul.t {k : Nat} {a0_0 : Bool} {l0_1 : List Int} {l0_2 : List Int} {a1_0 : Bool} {l1_1 : List Int} {l1_2 : List Int} {r : Bool × List Int × List Int} [h : Ans (rat_Mul.f k a0_0 l0_1 l0_2 a1_0 l1_1 l1_2) r] : Tl Try.prog 32 [.agg [.val (.bool a0_0), .row l0_1, .row l0_2], .agg [.val (.bool a1_0), .row l1_1, .row l1_2]] (.el (.agg [.val (.bool r.1), .row r.2.1, .row r.2.2])) := by
 have h := h.out
 unfold rat_Mul.f at h
 repeat' (first | (replace h := Lin.bndK h) | (replace h := Lin.bnd h; obtain ⟨_, _, h⟩ := h) | split at h | cases h)
 all_goals exact ⟨Tells.go Try.func32 Try.ntmps32⟩
def slices_Reverse_byte_byte.l0 : Nat → List Int → Int → Int → Option (List Int)
 | 0, _, _, _ => none
 | k + 1, x0, x2, x3 => if x2 < x3 then (if 0 ≤ x3 then (if x3 < (x0.length : Int) then (if 0 ≤ x2 then (if x2 < (x0.length : Int) then (slices_Reverse_byte_byte.l0 k ((x0.set (x2 : Int).toNat (rd x0 x3)).set (x3 : Int).toNat (rd x0 x2)) (wrap64 (x2 + 1)) (wrap64 (x3 - 1))) else (none)) else (none)) else (none)) else (none)) else (some x0)
def slices_Reverse_byte_byte.f (k : Nat) (l0 : List Int) : Option (List Int) := slices_Reverse_byte_byte.l0 k l0 0 (wrap64 ((l0.length : Int) - 1))
def slices_Reverse_byte_byte.T3 : Bool × List (List Nat × List Nat) := (true, [([], []), ([], []), ([], []), ([], []), ([], []), ([], []), ([4, 5], [4, 5]), ([6], [6]), ([], []), ([], []), ([8, 9], [8, 9]), ([10], [10]), ([0, 1, 0, 1, 4, 5, 6, 7, 11], [0, 1]), ([12, 7, 0, 1, 4, 5, 6, 7, 11], [7, 12]), ([2, 3, 0, 1, 2, 3, 4, 5, 6, 7, 8, 9, 10, 11, 12, 13], [2, 3]), ([14, 11, 13, 0, 1, 2, 3, 4, 5, 6, 7, 8, 9, 10, 11, 12, 13], [11, 14])])
def slices_Reverse_byte_byte.B3 : List Nat := [0, 0, 0, 0, 0, 0, 48, 112, 0, 0, 768, 1792, 4083, 8179, 16383, 32767]
theorem slices_Reverse_byte_byte.tab3 : rtab .any (opsOf Try.f84 3) = slices_Reverse_byte_byte.T3 := by kernel_rfl
theorem slices_Reverse_byte_byte.bits3 : waitsOk slices_Reverse_byte_byte.T3.2 slices_Reverse_byte_byte.B3 = true := by kernel_rfl
set_option maxHeartbeats 8000000 in
set_option maxRecDepth 100000 in
theorem slices_Reverse_byte_byte.calls (k : Nat) (P0_ : Nat → Prop) (u9000_ : Value) (l0 : List Int) (r : List Int) (w0 w : World) (hB : Below w0.heap.size w0 w) (ho0 : Kd.R (Kd.int .u8) 5 w w0.heap.size P0_ u9000_ l0) (h : slices_Reverse_byte_byte.f k l0 = some r) :
  Calls Try.prog 84 #[u9000_] w fun e w' => e = .returned (.tuple #[]) ∧ Kd.R (Kd.int .u8) 5 w' w0.heap.size (fun k_ => (P0_ k_ ∨ w.heap.size ≤ k_)) u9000_ r ∧ Below w0.heap.size w0 w' ∧ Kept w w' (fun k_ => P0_ k_) := by
 have HO0 := Aside0.mk (show Kd.R (Kd.int .u8) 5 w w0.heap.size (fun k_ => (P0_ k_ ∨ w.heap.size ≤ k_)) u9000_ l0 from Kd.R_mono ho0 (fun k_ hk => (.inl hk)))
 have HK := Aside0.mk (Kept.refl w (fun k_ => P0_ k_))
 have HW0 := Aside0.mk hB.size
 have HB := Aside0.mk hB
 clear hB
 have H : (slices_Reverse_byte_byte.l0 k l0 0 (wrap64 ((l0.length : Int) - 1))) = some r := h
 clear h
 have H' := Aside0.mk H
 clear H
 obtain ⟨Ao2, co2, eo2⟩ := Kd.R_slice HO0.out
 subst eo2
 go_enter Try.func84, Try.ntmps84
 go_wp2
 go_loopg [2, 3] k (fun kq v2 v3 w' => ∃ (x0_1 : List Int) (x2_1 : Int) (x3_1 : Int), v2 = .int .i64 x2_1 ∧ v3 = .int .i64 x3_1 ∧ Aside0 (slices_Reverse_byte_byte.l0 kq x0_1 x2_1 x3_1 = some r) ∧ Aside0 (kq ≤ k) ∧ Aside0 (Kd.R (Kd.int .u8) 5 w' w0.heap.size (fun k_ => (P0_ k_ ∨ w.heap.size ≤ k_)) (.slice Ao2 l0.length co2) x0_1) ∧ Aside0 (Kept w w' (fun k_ => P0_ k_)) ∧ Aside0 (Below w0.heap.size w0 w'))
 case atStart => exact ⟨(l0), (0), (wrap64 ((l0.length : Int) - 1)), (by first | rfl | (simp; done) | (simp [*]; done)), (by first | rfl | (simp; done) | (simp [*]; done)), H', ⟨Nat.le_refl _⟩, ⟨by (with_reducible repeat (first | apply Kd.R_alloc | apply Kd.R_drewN | apply Kd.R_drew)); exact HO0.out⟩, ⟨by repeat (first | (with_reducible first | exact HK.out | apply Kept.alloc | apply Kept.drewN | apply Kept.drew) | exact HK.out)⟩, ⟨by repeat (first | (with_reducible first | exact HB.out | apply below_alloc | apply pw_below_drewN | apply below_drew1) | exact HB.out)⟩⟩
 case round =>
  clear H'
  try clear p2
  obtain ⟨x0_1, x2_1, x3_1, rfl, rfl, HA, HK1, HO_0, HK, HB⟩ := hrel
  have hl0_1 := (Kd.R_reads' HO_0.out).1
  rw [hl0_1] at HO_0
  (try simp only [hl0_1])
  cases gk with
  | zero => exact absurd HA.out (by simp [slices_Reverse_byte_byte.l0])
  | succ k1 =>
   have H := HA.out
   clear HA
   simp only [slices_Reverse_byte_byte.l0] at H
   by_cases c3 : x2_1 < x3_1
   ·rw [if_pos c3] at H
    have c3b0 : decide (x2_1 < x3_1) = true := decide_eq_true c3
    clear c3
    by_cases c4 : 0 ≤ x3_1
    ·rw [if_pos c4] at H
     have c4b0 : decide (0 ≤ x3_1) = true := decide_eq_true c4
     clear c4
     by_cases c5 : x3_1 < (x0_1.length : Int)
     ·rw [if_pos c5] at H
      have c5b0 : decide (x3_1 < (x0_1.length : Int)) = true := decide_eq_true c5
      clear c5
      by_cases c6 : 0 ≤ x2_1
      ·rw [if_pos c6] at H
       have c6b0 : decide (0 ≤ x2_1) = true := decide_eq_true c6
       clear c6
       by_cases c7 : x2_1 < (x0_1.length : Int)
       ·rw [if_pos c7] at H
        have c7b0 : decide (x2_1 < (x0_1.length : Int)) = true := decide_eq_true c7
        clear c7
        obtain ⟨y190, hy190⟩ : ∃ y_ : List Int, y_ = (x0_1.set (x2_1 : Int).toNat (rd x0_1 x3_1)) := ⟨_, rfl⟩
        replace H : (slices_Reverse_byte_byte.l0 k1 (y190.set (x3_1 : Int).toNat (rd x0_1 x2_1)) (wrap64 (x2_1 + 1)) (wrap64 (x3_1 - 1))) = some r := by first | (rw [hy190]; with_reducible exact H) | (have H2_ := (Option.bind_some _ _).symm.trans H; rw [hy190]; with_reducible exact H2_) | (have H2_ := (Option.bind_some _ _).symm.trans H; with_reducible exact H2_) | with_reducible exact H | (rw [hy190]; exact H) | exact H
        have Ny190 := Aside0.mk hy190
        clear hy190
        obtain ⟨y191, hy191⟩ : ∃ y_ : List Int, y_ = (y190.set (x3_1 : Int).toNat (rd x0_1 x2_1)) := ⟨_, rfl⟩
        replace H : (slices_Reverse_byte_byte.l0 k1 y191 (wrap64 (x2_1 + 1)) (wrap64 (x3_1 - 1))) = some r := by first | (rw [hy191]; with_reducible exact H) | (have H2_ := (Option.bind_some _ _).symm.trans H; rw [hy191]; with_reducible exact H2_) | (have H2_ := (Option.bind_some _ _).symm.trans H; with_reducible exact H2_) | with_reducible exact H | (rw [hy191]; exact H) | exact H
        have Ny191 := Aside0.mk hy191
        clear hy191
        have H' := Aside0.mk H
        clear H
        try go_wp2
        replace HO_0 := Aside0.mk (Kd.R_drew HO_0.out)
        replace HK := Aside0.mk (Kept.drew HK.out)
        replace HB := Aside0.mk (below_drew1 HB.out)
        have p188 : 0 ≤ (x3_1 : Int) := of_decide_eq_true (by first | (with_reducible assumption) | assumption)
        have q188 : x3_1 < (x0_1.length : Int) := of_decide_eq_true (by first | (with_reducible assumption) | assumption)
        obtain ⟨ad188, e188, hx188_0⟩ := Kd.at_int (Kd.R_reads' HO_0.out).2.2 x3_1 p188 q188
        cases e188
        replace p188 := eq_true p188
        replace q188 := eq_true q188
        have p189 : 0 ≤ (x2_1 : Int) := of_decide_eq_true (by first | (with_reducible assumption) | assumption)
        have q189 : x2_1 < (x0_1.length : Int) := of_decide_eq_true (by first | (with_reducible assumption) | assumption)
        obtain ⟨ad189, e189, hx189_0⟩ := Kd.at_int (Kd.R_reads' HO_0.out).2.2 x2_1 p189 q189
        obtain rfl : ad188 = ad189 := (by injection e189)
        replace p189 := eq_true p189
        replace q189 := eq_true q189
        have p8 : 0 ≤ (x2_1 : Int) := of_decide_eq_true (by first | (with_reducible assumption) | assumption)
        have q8 : (x2_1 : Int) < ((x0_1.length : Int) : Int) := of_decide_eq_true (by first | (with_reducible assumption) | assumption)
        obtain ⟨go8, co8, eo8, gb8, gl8, cl8, HG8⟩ := Kd.R_form HO_0.out (by omega)
        (first | cases eo8 | (injection eo8 with ea_ en_ ec_; (first | subst ea_ | (injection ea_ with ea_; subst ea_)); subst ec_; clear en_))
        have GB8 := Aside0.mk gb8
        have GG8 := Aside0.mk HG8
        clear gb8 gl8 HG8
        have HMgo8 := Aside0.mk (show (P0_ go8 ∨ w.heap.size ≤ go8) from (HO_0.out.1 _ rfl))
        (first | simp only [add_plain] at hx188_0 | skip)
        (first | simp only [add_plain] at hx189_0 | skip)
        obtain ⟨hx8_0, hf8_0⟩ := Kd.R_celln 0 HO_0.out (x2_1 : Int) p8 q8
        replace p8 := eq_true p8
        replace q8 := eq_true q8
        have HP11 := Kd.R_putn HO_0.out (x2_1 : Int) (rd x0_1 x3_1)
        rw [← Ny190.out] at HP11
        have HQ11 := Aside0.mk HP11
        clear HP11
        have p9 : 0 ≤ (x3_1 : Int) := of_decide_eq_true (by first | (with_reducible assumption) | assumption)
        have q9 : (x3_1 : Int) < ((x0_1.length : Int) : Int) := of_decide_eq_true (by first | (with_reducible assumption) | assumption)
        obtain ⟨hx9_0, hf9_0⟩ := Kd.R_celln 0 HQ11.out (x3_1 : Int) p9 q9
        replace p9 := eq_true p9
        replace q9 := eq_true q9
        have HP12 := Kd.R_putn HQ11.out (x3_1 : Int) (rd x0_1 x2_1)
        rw [← Ny191.out] at HP12
        have HQ12 := Aside0.mk HP12
        clear HP12
        refine start_ (n := 16) (S := fun w' => w'.cell? ⟨go8, (x3_1).toNat, none⟩ = some (.int .u8 (rd x0_1 x3_1)) ∧ w'.cell? ⟨go8, (x2_1).toNat, none⟩ = some (.int .u8 (rd x0_1 x2_1))) (ds := [13, 15]) #[false, false, false, false, false, false, false, false, false, false, false, false, false, false, false, false] (by kernel_rfl) rfl rfl ⟨hx188_0, hx189_0⟩ (fun hHeld => ?_); refine with_tabW slices_Reverse_byte_byte.tab3 slices_Reverse_byte_byte.bits3 (fun HT_ HW_ => ?_)
        generalize wr.drew = w10 at HO_0 HK HB GG8 HQ11 HQ12 hf8_0 hf9_0 hx188_0 hx189_0 hx8_0 hx9_0 hHeld ⊢
        refine Short.pureS_ (i := 0) (N := some 14) #[true, false, false, false, false, false, false, false, false, false, false, false, false, false, false, false] (any_of HT_.out (by kernel_rfl)) ?_
        refine Short.pureS_ (i := 1) (N := some 15) #[true, true, false, false, false, false, false, false, false, false, false, false, false, false, false, false] (any_of HT_.out (by kernel_rfl)) ?_
        refine Short.pureS_ (i := 2) (N := some 16) #[true, true, true, false, false, false, false, false, false, false, false, false, false, false, false, false] (any_of HT_.out (by kernel_rfl)) ?_
        refine Short.pureS_ (i := 3) (N := some 17) #[true, true, true, true, false, false, false, false, false, false, false, false, false, false, false, false] (any_of HT_.out (by kernel_rfl)) ?_
        refine Short.pureS_ (i := 4) (N := some 18) #[true, true, true, true, true, false, false, false, false, false, false, false, false, false, false, false] (any_of HT_.out (by kernel_rfl)) ?_
        refine Short.pureS_ (i := 5) (N := some 19) #[true, true, true, true, true, true, false, false, false, false, false, false, false, false, false, false] (any_of HT_.out (by kernel_rfl)) ?_
        refine Short.pureS_ (i := 6) (N := some 20) #[true, true, true, true, true, true, true, false, false, false, false, false, false, false, false, false] (any_of HT_.out (by kernel_rfl)) ?_
        refine Short.pureS_ (i := 8) (N := some 22) #[true, true, true, true, true, true, true, false, true, false, false, false, false, false, false, false] (any_of HT_.out (by kernel_rfl)) ?_
        refine Short.pureS_ (i := 9) (N := some 23) #[true, true, true, true, true, true, true, false, true, true, false, false, false, false, false, false] (any_of HT_.out (by kernel_rfl)) ?_
        refine Short.pureS_ (i := 10) (N := some 24) #[true, true, true, true, true, true, true, false, true, true, true, false, false, false, false, false] (any_of HT_.out (by kernel_rfl)) ?_
        refine Short.takeS_ (i := 7) (N := some 21) #[true, true, true, true, true, true, true, true, true, true, true, false, false, false, false, false] (take_ofW HT_.out HW_.out (by kernel_rfl)) hHeld ?_
        refine Short.takeS_ (i := 11) (N := some 25) #[true, true, true, true, true, true, true, true, true, true, true, true, false, false, false, false] (take_ofW HT_.out HW_.out (by kernel_rfl)) hHeld ?_
        refine Short.pureS_ (i := 12) (N := some 26) #[true, true, true, true, true, true, true, true, true, true, true, true, true, false, false, false] (any_of HT_.out (by kernel_rfl)) ?_
        refine last_ (i := 13) (N := none) #[true, true, true, true, true, true, true, true, true, true, true, true, true, true, false, false] rfl rfl (one_of HT_.out (by kernel_rfl)) (by decide) (fun K hK => ?_)
        refine skip_ (w1 := ?_) (by rfl) rfl ?_ ?_
        rotate_left
        ·go_simp
         rfl
        refine hK.out _ _ ?_
        clear hK K
        refine Short.pureS_ (i := 14) (N := some 27) #[true, true, true, true, true, true, true, true, true, true, true, true, true, true, true, false] (any_of HT_.out (by kernel_rfl)) ?_
        refine last_ (i := 15) (N := none) #[true, true, true, true, true, true, true, true, true, true, true, true, true, true, true, true] rfl rfl (one_of HT_.out (by kernel_rfl)) (by decide) (fun K hK => ?_)
        refine skip_ (w1 := ?_) (by rfl) rfl ?_ ?_
        rotate_left
        ·go_simp
         rfl
        refine hK.out _ _ ?_
        clear hK K
        refine done_ (done_of HT_.out (by kernel_rfl)) ?_
        try go_wp2
        (try simp only [← hl0_1])
        go_roundg k1
        case measure => have := HK1.out; omega
        case rel => exact ⟨(y191), (wrap64 (x2_1 + 1)), (wrap64 (x3_1 - 1)), (by first | rfl | (simp; done) | (simp [*]; done)), (by first | rfl | (simp; done) | (simp [*]; done)), H', ⟨by have := HK1.out; omega⟩, ⟨by (try simp only [hl0_1]); (with_reducible repeat (first | apply Kd.R_alloc | apply Kd.R_drewN | apply Kd.R_drew)); exact HQ12.out⟩, ⟨by repeat (first | (with_reducible first | exact HK.out | apply Kept.alloc | apply Kept.drewN | apply Kept.drew | refine Kept.setCell ?_ HMgo8.out _ | refine Kept.setCell ?_ HMgo8.out _) | exact HK.out)⟩, ⟨by repeat (first | (with_reducible first | exact HB.out | apply below_alloc | apply pw_below_drewN | apply below_drew1 | refine below_set ?_ GB8.out | refine below_set ?_ GB8.out) | exact HB.out)⟩⟩
       ·rw [if_neg c7] at H
        exact absurd H (by simp)
      ·rw [if_neg c6] at H
       exact absurd H (by simp)
     ·rw [if_neg c5] at H
      exact absurd H (by simp)
    ·rw [if_neg c4] at H
     exact absurd H (by simp)
   ·rw [if_neg c3] at H
    have c3b0 : decide (x2_1 < x3_1) = false := decide_eq_false c3
    clear c3
    obtain rfl := Option.some.inj H
    go_wp2
    first | go_end0 | ((try simp only [Exit.inBlock, Exit.then]); refine bodyPost_ret (results_none rfl _ _ _) rfl ?_)
    exact ⟨by rfl, (by first | exact HO_0.out | (simp only [hl0_1]; exact HO_0.out)), by repeat (first | (with_reducible first | exact HB.out | apply below_alloc | apply pw_below_drewN | apply below_drew1) | exact HB.out), by repeat (first | (with_reducible first | exact HK.out | apply Kept.alloc | apply Kept.drewN | apply Kept.drew) | exact HK.out)⟩

theorem slices_Reverse_byte_byte.ev_l {l : List Int} (hl : l.length < 9223372036854775807) (d : Nat) : ∀ (y : List Int) (i : Nat), i ≤ l.length → l.length - 2 * i ≤ d → y.length = l.length → (∀ p, p < l.length → y.getD p 0 = if p < i ∨ l.length < p + 1 + i then l.getD (l.length - 1 - p) 0 else l.getD p 0) →
  Ev (fun k => slices_Reverse_byte_byte.l0 k y (i : Int) ((l.length : Int) - 1 - (i : Int))) l.reverse := by
 have stop : ∀ (y : List Int) (i : Nat), i ≤ l.length → l.length ≤ 2 * i + 1 → y.length = l.length → (∀ p, p < l.length → y.getD p 0 = if p < i ∨ l.length < p + 1 + i then l.getD (l.length - 1 - p) 0 else l.getD p 0) →
   Ev (fun k => slices_Reverse_byte_byte.l0 k y (i : Int) ((l.length : Int) - 1 - (i : Int))) l.reverse := by
  intro y i hi hd hy hp
  refine Ev.step (f := fun _ => some y) (fun k => ?_) ?_
  ·rw [slices_Reverse_byte_byte.l0, if_neg (by omega)]
  ·have : y = l.reverse := by
    refine List.ext_getElem (by rw [List.length_reverse]; exact hy) (fun p h1 h2 => ?_)
    rw [List.length_reverse] at h2
    have h3 := hp p h2
    rw [List.getD_eq_getElem?_getD, List.getElem?_eq_getElem h1] at h3
    rw [List.getElem_reverse]
    have h4 : l.getD (l.length - 1 - p) 0 = l[l.length - 1 - p] := by rw [List.getD_eq_getElem?_getD, List.getElem?_eq_getElem (by omega)]; rfl
    rw [← h4]
    refine Eq.trans h3 ?_
    split
    ·rfl
    ·rw [show l.length - 1 - p = p from by omega]
   rw [this]
   exact Ev.now _
 induction d with
 | zero =>
  intro y i hi hd hy hp
  exact stop y i hi (by omega) hy hp
 | succ d ih =>
  intro y i hi hd hy hp
  by_cases hlt : l.length ≤ 2 * i + 1
  ·exact stop y i hi hlt hy hp
  ·obtain ⟨j, hj⟩ : ∃ j, j = l.length - 1 - i := ⟨_, rfl⟩
   have hji : (l.length : Int) - 1 - (i : Int) = (j : Int) := by omega
   refine Ev.step (f := fun k => slices_Reverse_byte_byte.l0 k ((y.set i (y.getD j 0)).set j (y.getD i 0)) ((i + 1 : Nat) : Int) ((l.length : Int) - 1 - ((i + 1 : Nat) : Int))) (fun k => ?_) ?_
   ·rw [slices_Reverse_byte_byte.l0, hji, if_pos (by omega), if_pos (by omega), if_pos (by omega), if_pos (by omega), if_pos (by omega), Dec.w64s _ (by omega), Dec.w64 (by omega) (by omega), Int.toNat_natCast, Int.toNat_natCast, show rd y (i : Int) = y.getD i 0 from by simp [rd], show rd y (j : Int) = y.getD j 0 from by simp [rd], show (j : Int) - 1 = (l.length : Int) - 1 - ((i + 1 : Nat) : Int) from by omega]
   ·refine ih _ (i + 1) (by omega) (by omega) (by rw [List.length_set, List.length_set]; exact hy) (fun p hpl => ?_)
    have hi1 := hp i (by omega)
    have hj1 := hp j (by omega)
    rw [if_neg (by omega)] at hi1 hj1
    have gs : ∀ (z : List Int) (a : Nat) (v : Int) (b : Nat), (z.set a v).getD b 0 = if a = b ∧ a < z.length then v else z.getD b 0 := by
     intro z a v b
     rw [List.getD_eq_getElem?_getD, List.getD_eq_getElem?_getD, List.getElem?_set]
     by_cases h : a = b
     ·subst h
      by_cases h2 : a < z.length
      ·simp [h2]
      ·simp [h2]
     ·simp [h]
    rw [gs, gs, List.length_set, hi1, hj1, hp p hpl]
    by_cases e1 : j = p
    ·subst e1
     rw [if_pos ⟨rfl, by omega⟩, if_pos (by omega), show l.length - 1 - j = i from by omega]
    ·rw [if_neg (by omega)]
     by_cases e2 : i = p
     ·subst e2
      rw [if_pos ⟨rfl, by omega⟩, if_pos (by omega), hj]
     ·rw [if_neg (by omega)]
      by_cases e3 : p < i ∨ l.length < p + 1 + i
      ·rw [if_pos e3, if_pos (by omega)]
      ·rw [if_neg e3, if_neg (by omega)]
theorem slices_Reverse_byte_byte.ev {l : List Int} (hl : l.length < 9223372036854775807) : Ev (fun k => slices_Reverse_byte_byte.f k l) l.reverse := by
 have := slices_Reverse_byte_byte.ev_l hl l.length l 0 (by omega) (by omega) rfl (fun p hp => by rw [if_neg (by omega)])
 refine Ev.congr (fun k => ?_) this
 unfold slices_Reverse_byte_byte.f
 rw [Dec.w64 (by omega) (by omega), show (l.length : Int) - 1 - ((0 : Nat) : Int) = (l.length : Int) - 1 from by omega]
 rfl
mutual
def nat_Text.l0 : Nat → List Int → List Int → Option (ByteArray)
 | 0, _, _ => none
 | k + 1, x0, x3 => if (x0.length : Int) > 0 then ((nat_Of.f k 1000000000).bind fun t195 => ((nat_DivMod.f k x0 t195).bind fun bt198 => ((nat_Small.f k bt198.2.1).bind fun bt205 => (nat_Text.l1 k x3 bt198.1 bt205.1 0)))) else (nat_Text.l2 k x3)
def nat_Text.l1 : Nat → List Int → List Int → Int → Int → Option (ByteArray)
 | 0, _, _, _, _ => none
 | k + 1, x3, x4, x7, x26 => if x26 < 9 then (if x3.length < 140737488355328 then (nat_Text.l1 k (x3 ++ [(IntKind.u64.wrap (48 + (Int.tmod x7 10))) % 256]) x4 (IntKind.u64.wrap (Int.tdiv x7 10)) (wrap64 (x26 + 1))) else (none)) else (nat_Text.l0 k x4 x3)
def nat_Text.l2 : Nat → List Int → Option (ByteArray)
 | 0, _ => none
 | k + 1, x3 => if (x3.length : Int) > 1 then (if 0 ≤ (wrap64 ((x3.length : Int) - 1)) then (if (wrap64 ((x3.length : Int) - 1)) < (x3.length : Int) then (if (rd x3 (wrap64 ((x3.length : Int) - 1))) = 48 then (if (wrap64 ((x3.length : Int) - 1)) ≤ (x3.length : Int) then (nat_Text.l2 k (x3.take ((wrap64 ((x3.length : Int) - 1)) : Int).toNat)) else (none)) else (if (x3.length : Int) = 0 then (some (⟨#[48]⟩ : ByteArray)) else ((slices_Reverse_byte_byte.f k x3).bind fun t214 => (some (strOfNums t214))))) else (none)) else (none)) else (if (x3.length : Int) = 0 then (some (⟨#[48]⟩ : ByteArray)) else ((slices_Reverse_byte_byte.f k x3).bind fun t215 => (some (strOfNums t215))))
end
def nat_Text.f (k : Nat) (l0 : List Int) : Option (ByteArray) := (nat_trim.f k l0).bind fun t192 => (nat_Text.l0 k t192 ([] : List Int))
set_option maxHeartbeats 8000000 in
set_option maxRecDepth 100000 in
theorem nat_Text.calls (k : Nat) (A0 : Option Addr) (c0 : Nat) (l0 : List Int) (r : ByteArray) (w : World) (hr0 : Kd.C (Kd.int .u32) w A0 l0.length l0) (hc0 : l0.length ≤ c0) (h : nat_Text.f k l0 = some r) :
  Calls Try.prog 59 #[.slice A0 l0.length c0] w fun e w' => e = .returned (.string r) ∧ Below w.heap.size w w' := by
 have HR0 := Aside0.mk hr0
 have HC0 := Aside0.mk hc0
 clear hr0 hc0
 have HB := Aside0.mk (Below.refl w.heap.size w)
 have H : ((nat_trim.f k l0).bind fun t192 => (nat_Text.l0 k t192 ([] : List Int))) = some r := h
 clear h
 replace H := Option.bind_eq_some_iff.mp H
 obtain ⟨t192, A20, H⟩ := H
 try dsimp only at H
 have A2 := Aside0.mk A20
 clear A20
 have H' := Aside0.mk H
 clear H
 go_enter Try.func59, Try.ntmps59
 go_wp2_with (first | ((with_reducible refine gate_callee (f := 71) rfl ?_); refine Short.goesS_ (some 10) Try.func71 #[.slice A0 l0.length c0] ?_; (with_reducible refine (nat_trim.calls k _ _ l0 t192 _ HR0.out HC0.out A2.out).mono ?_); rintro e w3 ⟨v193, rfl, ho0, hb⟩; refine ⟨_, rfl, ?_⟩; have HO194 := Aside0.mk (Kd.R_lower ho0 (below_size (by repeat (first | (with_reducible first | exact HB.out | apply below_alloc | apply pw_below_drewN | apply below_drew1) | exact HB.out)))); replace HB := Aside0.mk (below_step (by repeat (first | (with_reducible first | exact HB.out | apply below_alloc | apply pw_below_drewN | apply below_drew1) | exact HB.out)) hb); (try clear hb); (try clear ho0)))
 go_loopg [0, 3] k (fun kq v0 v3 w' => ∃ (x0_1 : List Int) (x3_1 : List Int), Aside0 (nat_Text.l0 kq x0_1 x3_1 = some r) ∧ Aside0 (kq ≤ k) ∧ Aside0 (Kd.R (Kd.int .u32) 89 w' w.heap.size (fun _ => True) v0 x0_1) ∧ Aside0 (Kd.R (Kd.int .u8) 5 w' w.heap.size (fun _ => True) v3 x3_1) ∧ Aside0 (Below w.heap.size w w'))
 case atStart => exact ⟨(t192), (([] : List Int)), H', ⟨Nat.le_refl _⟩, ⟨by (with_reducible repeat (first | apply Kd.R_alloc | apply Kd.R_drewN | apply Kd.R_drew)); exact HO194.out⟩, ⟨by first | exact Kd.R_nil _ _ _ _ _ | exact Kd.N_nil _ _ _ _ _ | exact Kd.V_nil _ _ _ _ _ | exact Kd.Q_nil _ _ _ _ _ | exact Kd.S_nil _ _ _ _ _⟩, ⟨by repeat (first | (with_reducible first | exact HB.out | apply below_alloc | apply pw_below_drewN | apply below_drew1) | exact HB.out)⟩⟩
 case round =>
  clear H'
  try clear p2
  obtain ⟨x0_1, x3_1, HA, HK1, HO_0, HO_3, HB⟩ := hrel
  cases gk with
  | zero => exact absurd HA.out (by simp [nat_Text.l0])
  | succ k1 =>
   have H := HA.out
   clear HA
   simp only [nat_Text.l0] at H
   by_cases c4 : (x0_1.length : Int) > 0
   ·rw [if_pos c4] at H
    have c4b0 : decide (0 < (x0_1.length : Int)) = true := decide_eq_true c4
    have c4b1 : decide (0 < x0_1.length) = true := decide_eq_true (by omega)
    clear c4
    replace H := Option.bind_eq_some_iff.mp H
    obtain ⟨t195, A50, H⟩ := H
    try dsimp only at H
    have A5 := Aside0.mk A50
    clear A50
    replace H := Option.bind_eq_some_iff.mp H
    obtain ⟨⟨t198, t201, t204⟩, A60, H⟩ := H
    try dsimp only at H
    have A6 := Aside0.mk A60
    clear A60
    replace H := Option.bind_eq_some_iff.mp H
    obtain ⟨⟨t205, t206⟩, A70, H⟩ := H
    replace H : (nat_Text.l1 k1 x3_1 t198 t205 0) = some r := H
    have A7 := Aside0.mk A70
    clear A70
    have H' := Aside0.mk H
    clear H
    obtain ⟨Ao8, co8, eo8⟩ := Kd.R_slice HO_0.out
    subst eo8
    go_wp2_with (first | ((with_reducible refine gate_callee (f := 37) rfl ?_); refine Short.goesS_ (some 16) Try.func37 #[.int .u64 1000000000] ?_; (with_reducible refine (nat_Of.calls k1 1000000000 t195 _ A5.out).mono ?_); rintro e w9 ⟨v196, rfl, ho0, hb⟩; refine ⟨_, rfl, ?_⟩; replace HO_3 := Aside0.mk (Kd.R_below HO_3.out hb); have HO197 := Aside0.mk (Kd.R_lower (Kd.R_new' ho0 (Kd.R_lt HO_0.out)) (below_size (by repeat (first | (with_reducible first | exact HB.out | apply below_alloc | apply pw_below_drewN | apply below_drew1) | exact HB.out)))); replace HO_0 := Aside0.mk (Kd.R_elder' HO_0.out (Kd.R_base ho0) hb); replace HB := Aside0.mk (below_step (by repeat (first | (with_reducible first | exact HB.out | apply below_alloc | apply pw_below_drewN | apply below_drew1) | exact HB.out)) hb); (try clear hb); (try clear ho0); obtain ⟨Ao10, co10, eo10⟩ := Kd.R_slice HO197.out; subst eo10) | ((with_reducible refine gate_callee (f := 70) rfl ?_); refine Short.goesS_ (some 17) Try.func70 #[.slice Ao8 x0_1.length co8, .slice Ao10 t195.length co10] ?_; (with_reducible refine (nat_DivMod.calls k1 _ _ x0_1 _ _ t195 t198 t201 t204 _ ((Kd.R_reads' HO_0.out).2.2) ((Kd.R_reads' HO_0.out).2.1) ((Kd.R_reads' HO197.out).2.2) ((Kd.R_reads' HO197.out).2.1) A6.out).mono ?_); rintro e w11 ⟨v199, v202, rfl, ho0, ho1, hb⟩; refine ⟨_, rfl, ?_⟩; have HO200 := Aside0.mk (Kd.R_lower (Kd.R_new' (Kd.R_new' (Kd.R_mono (ok' := fun k_ => True) ho0 (fun _ hk_ => trivial)) (Kd.R_lt HO_0.out)) (Kd.R_lt HO197.out)) (below_size (by repeat (first | (with_reducible first | exact HB.out | apply below_alloc | apply pw_below_drewN | apply below_drew1) | exact HB.out)))); have HO203 := Aside0.mk (Kd.V_lower (Kd.V_mono (ok' := fun k_ => some k_ ≠ (v199 : Value).ownBlock ∧ some k_ ≠ (.slice Ao8 x0_1.length co8 : Value).ownBlock ∧ some k_ ≠ (u3 : Value).ownBlock ∧ some k_ ≠ (.slice Ao10 t195.length co10 : Value).ownBlock) ho1 (fun k_ hk_ => ⟨hk_.2, (Kd.fresh' (Kd.R_lt HO_0.out) k_ hk_.1), (Kd.fresh' (Kd.R_lt HO_3.out) k_ hk_.1), (Kd.fresh' (Kd.R_lt HO197.out) k_ hk_.1)⟩)) (below_size (by repeat (first | (with_reducible first | exact HB.out | apply below_alloc | apply pw_below_drewN | apply below_drew1) | exact HB.out)))); replace HO_0 := Aside0.mk (Kd.R_elder' HO_0.out (Kd.R_base ho0) hb); replace HO_3 := Aside0.mk (Kd.R_below HO_3.out hb); replace HO197 := Aside0.mk (Kd.R_elder' HO197.out (Kd.R_base ho0) hb); replace HB := Aside0.mk (below_step (by repeat (first | (with_reducible first | exact HB.out | apply below_alloc | apply pw_below_drewN | apply below_drew1) | exact HB.out)) hb); (try clear hb); (try clear ho0); (try clear ho1); obtain ⟨Ao12, co12, eo12⟩ := Kd.V_slice HO203.out; subst eo12) | ((with_reducible refine gate_callee (f := 83) rfl ?_); refine Short.goesS_ (some 23) Try.func83 #[.slice Ao12 t201.length co12] ?_; (with_reducible refine (nat_Small.calls k1 _ _ t201 t205 t206 _ ((Kd.V_reads' HO203.out).2.2) ((Kd.V_reads' HO203.out).2.1) A7.out).mono ?_); rintro e w13 ⟨rfl, hb⟩; refine ⟨_, rfl, ?_⟩; replace HO_0 := Aside0.mk (Kd.R_below HO_0.out hb); replace HO_3 := Aside0.mk (Kd.R_below HO_3.out hb); replace HO197 := Aside0.mk (Kd.R_below HO197.out hb); replace HO200 := Aside0.mk (Kd.R_below HO200.out hb); replace HO203 := Aside0.mk (Kd.V_below HO203.out hb); replace HB := Aside0.mk (below_step (by repeat (first | (with_reducible first | exact HB.out | apply below_alloc | apply pw_below_drewN | apply below_drew1) | exact HB.out)) hb); (try clear hb)))
    go_loopg [3, 7, 26] k1 (fun kq v3 v7 v26 w' => ∃ (x3_2 : List Int) (x7_2 : Int) (x26_2 : Int), v7 = .int .u64 x7_2 ∧ v26 = .int .i64 x26_2 ∧ Aside0 (nat_Text.l1 kq x3_2 t198 x7_2 x26_2 = some r) ∧ Aside0 (kq ≤ k1) ∧ Aside0 (Kd.R (Kd.int .u8) 5 w' w.heap.size (fun _ => True) v3 x3_2) ∧ Aside0 (Kd.R (Kd.int .u32) 89 w' w.heap.size (fun _ => True) v199 t198) ∧ Aside0 (Below w.heap.size w w'))
    case atStart => exact ⟨(x3_1), (t205), (0), (by first | rfl | (simp; done) | (simp [*]; done)), (by first | rfl | (simp; done) | (simp [*]; done)), H', ⟨Nat.le_refl _⟩, ⟨by (with_reducible repeat (first | apply Kd.R_alloc | apply Kd.R_drewN | apply Kd.R_drew)); exact HO_3.out⟩, ⟨by (with_reducible repeat (first | apply Kd.R_alloc | apply Kd.R_drewN | apply Kd.R_drew)); exact Kd.R_mono HO200.out (fun _ hk => trivial)⟩, ⟨by repeat (first | (with_reducible first | exact HB.out | apply below_alloc | apply pw_below_drewN | apply below_drew1) | exact HB.out)⟩⟩
    case round =>
     clear H'
     try clear p2
     try clear c3
     try clear c4
     try clear c4b0
     try clear c4b1
     try clear c5
     try clear c7
     try clear c8
     try clear p2
     obtain ⟨x3_2, x7_2, x26_2, rfl, rfl, HA, HK2, HO_3, HO_4, HB⟩ := hrel
     cases gk with
     | zero => exact absurd HA.out (by simp [nat_Text.l1])
     | succ k2 =>
      have H := HA.out
      clear HA
      simp only [nat_Text.l1] at H
      by_cases c14 : x26_2 < 9
      ·rw [if_pos c14] at H
       have c14b0 : decide (x26_2 < 9) = true := decide_eq_true c14
       clear c14
       by_cases c15 : x3_2.length < 140737488355328
       ·rw [if_pos c15] at H
        have LMc15 := Aside0.mk c15
        clear c15
        obtain ⟨y207, hy207⟩ : ∃ y_ : List Int, y_ = (x3_2 ++ [(IntKind.u64.wrap (48 + (Int.tmod x7_2 10))) % 256]) := ⟨_, rfl⟩
        replace H : (nat_Text.l1 k2 y207 t198 (IntKind.u64.wrap (Int.tdiv x7_2 10)) (wrap64 (x26_2 + 1))) = some r := by first | (rw [hy207]; with_reducible exact H) | (have H2_ := (Option.bind_some _ _).symm.trans H; rw [hy207]; with_reducible exact H2_) | (have H2_ := (Option.bind_some _ _).symm.trans H; with_reducible exact H2_) | with_reducible exact H | (rw [hy207]; exact H) | exact H
        have Ny207 := Aside0.mk hy207
        clear hy207
        have H' := Aside0.mk H
        clear H
        go_wp2_with (first | ((with_reducible refine gate_builtin (b := .append) (xs := #[.tmp 28, .tmp 33]) rfl ?_); (try (refine gate_guard (by rfl) ?_; dsimp only)); at_builtin; refine Kd.R_append (Kd.int .u8) (w0 := w) w.heap.size rfl (.tmp 28) (.tmp 33) 103 5 (.int .u8 0) 1 rfl Try.underlying103 info5 rfl (by decide) (by omega) u3 x3_2 ((IntKind.u64.wrap (48 + (Int.tmod x7_2 10))) % 256) [.int .u8 ((IntKind.u64.wrap (48 + (Int.tmod x7_2 10))) % 256)] (fun _ => True) (fun _ => False) rfl rfl ?aP (fun _ hk => hk.elim) ?aF ?aO ?aB ?aS ?aL ?_; (case aP => exact rfl); (case aB => exact (by repeat (first | (with_reducible first | exact HB.out | apply below_alloc | apply pw_below_drewN | apply below_drew1) | exact HB.out))); (case aF => exact (fun _ _ => trivial)); (case aO => exact HO_3.out); (case aS => exact (below_size (by repeat (first | (with_reducible first | exact HB.out | apply below_alloc | apply pw_below_drewN | apply below_drew1) | exact HB.out)))); (case aL => have := LMc15.out; omega); intro v208 w16 ho hb hg hat; rw [← Ny207.out] at ho; replace HO_4 := Aside0.mk (Kd.R_over' HO_4.out (Kd.R_typed HO_3.out) (by decide) hg); replace HB := Aside0.mk (hb); have HO209 := Aside0.mk (ho); clear HO_3; clear ho hb hg hat))
        go_roundg k2
        case measure => have := HK1.out; have := HK2.out; omega
        case rel => exact ⟨(y207), (IntKind.u64.wrap (Int.tdiv x7_2 10)), (wrap64 (x26_2 + 1)), (by first | rfl | (simp; done) | (simp [*]; done)), (by first | rfl | (simp; done) | (simp [*]; done)), H', ⟨by have := HK1.out; have := HK2.out; omega⟩, ⟨by (with_reducible repeat (first | apply Kd.R_alloc | apply Kd.R_drewN | apply Kd.R_drew)); exact HO209.out⟩, ⟨by (with_reducible repeat (first | apply Kd.R_alloc | apply Kd.R_drewN | apply Kd.R_drew)); exact HO_4.out⟩, ⟨by repeat (first | (with_reducible first | exact HB.out | apply below_alloc | apply pw_below_drewN | apply below_drew1) | exact HB.out)⟩⟩
       ·rw [if_neg c15] at H
        exact absurd H (by simp)
      ·rw [if_neg c14] at H
       have c14b0 : decide (x26_2 < 9) = false := decide_eq_false c14
       clear c14
       have H' := Aside0.mk H
       clear H
       go_wp2
       go_roundg k2
       case measure => have := HK1.out; have := HK2.out; omega
       case rel => exact ⟨(t198), (x3_2), H', ⟨by have := HK1.out; have := HK2.out; omega⟩, ⟨by (with_reducible repeat (first | apply Kd.R_alloc | apply Kd.R_drewN | apply Kd.R_drew)); exact HO_4.out⟩, ⟨by (with_reducible repeat (first | apply Kd.R_alloc | apply Kd.R_drewN | apply Kd.R_drew)); exact HO_3.out⟩, ⟨by repeat (first | (with_reducible first | exact HB.out | apply below_alloc | apply pw_below_drewN | apply below_drew1) | exact HB.out)⟩⟩
   ·rw [if_neg c4] at H
    have c4b0 : decide (0 < (x0_1.length : Int)) = false := decide_eq_false c4
    have c4b1 : decide (0 < x0_1.length) = false := decide_eq_false (by omega)
    clear c4
    have H' := Aside0.mk H
    clear H
    obtain ⟨Ao17, co17, eo17⟩ := Kd.R_slice HO_0.out
    subst eo17
    go_wp2
    go_loopg [3] k1 (fun kq v3 w' => ∃ (x3_2 : List Int), Aside0 (nat_Text.l2 kq x3_2 = some r) ∧ Aside0 (kq ≤ k1) ∧ Aside0 (Kd.R (Kd.int .u8) 5 w' w.heap.size (fun _ => True) v3 x3_2) ∧ Aside0 (Below w.heap.size w w'))
    case atStart => exact ⟨(x3_1), H', ⟨Nat.le_refl _⟩, ⟨by (with_reducible repeat (first | apply Kd.R_alloc | apply Kd.R_drewN | apply Kd.R_drew)); exact HO_3.out⟩, ⟨by repeat (first | (with_reducible first | exact HB.out | apply below_alloc | apply pw_below_drewN | apply below_drew1) | exact HB.out)⟩⟩
    case round =>
     clear H'
     try clear c1
     try clear p2
     try clear c3
     try clear c4
     try clear c4b0
     try clear c4b1
     try clear c5
     try clear p6
     try clear c7
     try clear c8
     try clear c14
     try clear c14b0
     try clear c15
     try clear p2
     obtain ⟨x3_2, HA, HK2, HO_3, HB⟩ := hrel
     cases gk with
     | zero => exact absurd HA.out (by simp [nat_Text.l2])
     | succ k2 =>
      have H := HA.out
      clear HA
      simp only [nat_Text.l2] at H
      by_cases c18 : (x3_2.length : Int) > 1
      ·rw [if_pos c18] at H
       have c18b0 : decide (1 < (x3_2.length : Int)) = true := decide_eq_true c18
       have c18b1 : decide (1 < x3_2.length) = true := decide_eq_true (by omega)
       clear c18
       obtain ⟨ji19, hji19⟩ : ∃ j_ : Int, (wrap64 ((x3_2.length : Int) - 1)) = j_ := ⟨_, rfl⟩
       replace H : (if 0 ≤ (ji19) then (if (ji19) < (x3_2.length : Int) then (if (rd x3_2 (ji19)) = 48 then (if (ji19) ≤ (x3_2.length : Int) then (nat_Text.l2 k2 (x3_2.take ((ji19) : Int).toNat)) else (none)) else (if (x3_2.length : Int) = 0 then (some (⟨#[48]⟩ : ByteArray)) else ((slices_Reverse_byte_byte.f k2 x3_2).bind fun t214 => (some (strOfNums t214))))) else (none)) else (none)) = some r := by first | (rw [hji19] at H; exact H) | (simp only [hji19] at H ⊢; exact H)
       have hji19w : (IntKind.i64.wrap ((x3_2.length : Int) - 1)) = ji19 := (i64_w _).trans hji19
       by_cases c20 : 0 ≤ (ji19)
       ·rw [if_pos c20] at H
        have c20b0 : decide (0 ≤ (ji19)) = true := decide_eq_true c20
        clear c20
        by_cases c21 : (ji19) < (x3_2.length : Int)
        ·rw [if_pos c21] at H
         have c21b0 : decide ((ji19) < (x3_2.length : Int)) = true := decide_eq_true c21
         clear c21
         by_cases c22 : (rd x3_2 (ji19)) = 48
         ·rw [if_pos c22] at H
          have c22b0 : ((rd x3_2 (ji19)) == 48) = true := beq_iff_eq.mpr c22
          have c22b1 : ((rd x3_2 (ji19)) != 48) = false := bne_eq_false_iff_eq.mpr c22
          clear c22
          by_cases c23 : (ji19) ≤ (x3_2.length : Int)
          ·rw [if_pos c23] at H
           have c23b0 := eq_true c23
           have c23b1 : decide ((ji19) ≤ (x3_2.length : Int)) = true := decide_eq_true c23
           clear c23
           obtain ⟨y211, hy211⟩ : ∃ y_ : List Int, y_ = (x3_2.take ((ji19) : Int).toNat) := ⟨_, rfl⟩
           replace H : (nat_Text.l2 k2 y211) = some r := by first | (rw [hy211]; with_reducible exact H) | (have H2_ := (Option.bind_some _ _).symm.trans H; rw [hy211]; with_reducible exact H2_) | (have H2_ := (Option.bind_some _ _).symm.trans H; with_reducible exact H2_) | with_reducible exact H | (rw [hy211]; exact H) | exact H
           have Ny211 := Aside0.mk hy211
           clear hy211
           have H' := Aside0.mk H
           clear H
           obtain ⟨Ao24, co24, eo24⟩ := Kd.R_slice HO_3.out
           subst eo24
           have p210 : 0 ≤ ((ji19) : Int) := of_decide_eq_true (by first | (with_reducible assumption) | assumption)
           have q210 : (ji19) < (x3_2.length : Int) := of_decide_eq_true (by first | (with_reducible assumption) | assumption)
           obtain ⟨ad210, e210, hx210_0⟩ := Kd.at_int (Kd.R_reads' HO_3.out).2.2 (ji19) p210 q210
           cases e210
           replace p210 := eq_true p210
           replace q210 := eq_true q210
           have q25 : ((ji19) : Int) ≤ ((x3_2.length : Int) : Int) := of_decide_eq_true (by first | (with_reducible assumption) | assumption)
           obtain ⟨i025, hi025, _, hsz25, _⟩ := info_parts info5
           have hcut25 := cut_to (P := Try.prog) 103 5 .i64 Try.underlying103 hi025 (some ad210) x3_2.length co24 (ji19) (of_decide_eq_true (by first | (with_reducible assumption) | assumption)) q25 (Kd.R_reads' HO_3.out).2.1
           have hr25 := Kd.R_take (m := ((ji19) : Int).toNat) HO_3.out (by omega)
           have hy25 : y211.length = ((ji19) : Int).toNat := (by rw [Ny211.out, List.length_take]; omega)
           rw [← Ny211.out] at hr25
           rw [← hy25] at hr25 hcut25
           clear hy25 hi025 hsz25 HO_3
           have HO213 := Aside0.mk hr25
           clear hr25
           replace q25 := eq_true q25
           go_wp2
           go_roundg k2
           case measure => have := HK1.out; have := HK2.out; omega
           case rel => exact ⟨(y211), H', ⟨by have := HK1.out; have := HK2.out; omega⟩, ⟨by (with_reducible repeat (first | apply Kd.R_alloc | apply Kd.R_drewN | apply Kd.R_drew)); exact HO213.out⟩, ⟨by repeat (first | (with_reducible first | exact HB.out | apply below_alloc | apply pw_below_drewN | apply below_drew1) | exact HB.out)⟩⟩
          ·rw [if_neg c23] at H
           exact absurd H (by simp)
         ·rw [if_neg c22] at H
          have c22b0 : ((rd x3_2 (ji19)) == 48) = false := beq_eq_false_iff_ne.mpr c22
          have c22b1 : ((rd x3_2 (ji19)) != 48) = true := bne_iff_ne.mpr c22
          by_cases c26 : (x3_2.length : Int) = 0
          ·rw [if_pos c26] at H
           have c26b0 : ((x3_2.length : Int) == 0) = true := beq_iff_eq.mpr c26
           have c26b1 : ((x3_2.length : Int) != 0) = false := bne_eq_false_iff_eq.mpr c26
           clear c26
           obtain rfl := Option.some.inj H
           obtain ⟨Ao27, co27, eo27⟩ := Kd.R_slice HO_3.out
           subst eo27
           have p210 : 0 ≤ ((ji19) : Int) := of_decide_eq_true (by first | (with_reducible assumption) | assumption)
           have q210 : (ji19) < (x3_2.length : Int) := of_decide_eq_true (by first | (with_reducible assumption) | assumption)
           obtain ⟨ad210, e210, hx210_0⟩ := Kd.at_int (Kd.R_reads' HO_3.out).2.2 (ji19) p210 q210
           cases e210
           replace p210 := eq_true p210
           replace q210 := eq_true q210
           go_wp2
           go_ret
           exact ⟨by first | rfl | (simp [errW_none, errW_some] <;> rfl) | (simp only [← hji19]; first | rfl | (simp [errW_none, errW_some] <;> rfl)) | (simp [*, errW_none, errW_some] <;> rfl), by repeat (first | (with_reducible first | exact HB.out | apply below_alloc | apply pw_below_drewN | apply below_drew1) | exact HB.out)⟩
          ·rw [if_neg c26] at H
           have c26b0 : ((x3_2.length : Int) == 0) = false := beq_eq_false_iff_ne.mpr c26
           have c26b1 : ((x3_2.length : Int) != 0) = true := bne_iff_ne.mpr c26
           have c26b2 : ¬ (x3_2 = []) := fun h_ => c26 (by rw [h_]; rfl)
           replace H := Option.bind_eq_some_iff.mp H
           obtain ⟨t214, A280, H⟩ := H
           replace H : (some (strOfNums t214)) = some r := H
           have A28 := Aside0.mk A280
           clear A280
           obtain rfl := Option.some.inj H
           obtain ⟨Ao29, co29, eo29⟩ := Kd.R_slice HO_3.out
           subst eo29
           have p210 : 0 ≤ ((ji19) : Int) := of_decide_eq_true (by first | (with_reducible assumption) | assumption)
           have q210 : (ji19) < (x3_2.length : Int) := of_decide_eq_true (by first | (with_reducible assumption) | assumption)
           obtain ⟨ad210, e210, hx210_0⟩ := Kd.at_int (Kd.R_reads' HO_3.out).2.2 (ji19) p210 q210
           cases e210
           replace p210 := eq_true p210
           replace q210 := eq_true q210
           go_wp2_with (first | ((with_reducible refine gate_callee (f := 84) rfl ?_); refine Short.goesS_ (some 60) Try.func84 #[.slice (some ad210) x3_2.length co29] ?_; (with_reducible refine (slices_Reverse_byte_byte.calls k2 (fun k_ => some k_ = (.slice (some ad210) x3_2.length co29 : Value).ownBlock) (.slice (some ad210) x3_2.length co29) x3_2 t214 w _ ?side1 (Kd.R_tight rfl HO_3.out) A28.out).mono ?_); (case side1 => repeat (first | (with_reducible first | exact HB.out | apply below_alloc | apply pw_below_drewN | apply below_drew1) | exact HB.out)); rintro e w30 ⟨rfl, hy0, hb, hkp⟩; refine ⟨_, rfl, ?_⟩; replace HO_3 := Aside0.mk (Kd.R_reok rfl hy0 (fun k_ e_ => HO_3.out.1 k_ e_)); replace HB := Aside0.mk (hb); (try clear hb); (try clear hkp); (try clear hy0); have hcv31 := own_string (P := Try.prog) Try.underlying103 Try.underlying5 Try.underlying9 (Kd.own_of_R HO_3.out)))
           go_ret
           exact ⟨by first | rfl | (simp [errW_none, errW_some] <;> rfl) | (simp only [← hji19]; first | rfl | (simp [errW_none, errW_some] <;> rfl)) | (simp [*, errW_none, errW_some] <;> rfl), by repeat (first | (with_reducible first | exact HB.out | apply below_alloc | apply pw_below_drewN | apply below_drew1) | exact HB.out)⟩
        ·rw [if_neg c21] at H
         exact absurd H (by simp)
       ·rw [if_neg c20] at H
        exact absurd H (by simp)
      ·rw [if_neg c18] at H
       have c18b0 : decide (1 < (x3_2.length : Int)) = false := decide_eq_false c18
       have c18b1 : decide (1 < x3_2.length) = false := decide_eq_false (by omega)
       clear c18
       by_cases c32 : (x3_2.length : Int) = 0
       ·rw [if_pos c32] at H
        have c32b0 : ((x3_2.length : Int) == 0) = true := beq_iff_eq.mpr c32
        have c32b1 : ((x3_2.length : Int) != 0) = false := bne_eq_false_iff_eq.mpr c32
        clear c32
        obtain rfl := Option.some.inj H
        obtain ⟨Ao33, co33, eo33⟩ := Kd.R_slice HO_3.out
        subst eo33
        go_wp2
        go_ret
        exact ⟨by rfl, by repeat (first | (with_reducible first | exact HB.out | apply below_alloc | apply pw_below_drewN | apply below_drew1) | exact HB.out)⟩
       ·rw [if_neg c32] at H
        have c32b0 : ((x3_2.length : Int) == 0) = false := beq_eq_false_iff_ne.mpr c32
        have c32b1 : ((x3_2.length : Int) != 0) = true := bne_iff_ne.mpr c32
        have c32b2 : ¬ (x3_2 = []) := fun h_ => c32 (by rw [h_]; rfl)
        replace H := Option.bind_eq_some_iff.mp H
        obtain ⟨t215, A340, H⟩ := H
        replace H : (some (strOfNums t215)) = some r := H
        have A34 := Aside0.mk A340
        clear A340
        obtain rfl := Option.some.inj H
        obtain ⟨Ao35, co35, eo35⟩ := Kd.R_slice HO_3.out
        subst eo35
        go_wp2_with (first | ((with_reducible refine gate_callee (f := 84) rfl ?_); refine Short.goesS_ (some 60) Try.func84 #[.slice Ao35 x3_2.length co35] ?_; (with_reducible refine (slices_Reverse_byte_byte.calls k2 (fun k_ => some k_ = (.slice Ao35 x3_2.length co35 : Value).ownBlock) (.slice Ao35 x3_2.length co35) x3_2 t215 w _ ?side1 (Kd.R_tight rfl HO_3.out) A34.out).mono ?_); (case side1 => repeat (first | (with_reducible first | exact HB.out | apply below_alloc | apply pw_below_drewN | apply below_drew1) | exact HB.out)); rintro e w36 ⟨rfl, hy0, hb, hkp⟩; refine ⟨_, rfl, ?_⟩; replace HO_3 := Aside0.mk (Kd.R_reok rfl hy0 (fun k_ e_ => HO_3.out.1 k_ e_)); replace HB := Aside0.mk (hb); (try clear hb); (try clear hkp); (try clear hy0); have hcv37 := own_string (P := Try.prog) Try.underlying103 Try.underlying5 Try.underlying9 (Kd.own_of_R HO_3.out)))
        go_ret
        exact ⟨by rfl, by repeat (first | (with_reducible first | exact HB.out | apply below_alloc | apply pw_below_drewN | apply below_drew1) | exact HB.out)⟩

/-- The noughts at the end are taken off, and the letters turned round. -/
theorem nat_Text.ev_2 (n : Nat) : ∀ {out : List Nat}, out.length = n → n < 4000000000 → Dec.Ds out → Ev (fun k => nat_Text.l2 k (Dec.cs out)) (Dec.dec (Dec.dv out)) := by
 have fin : ∀ (out : List Nat) (d : Nat), d < 10 → Dec.Ds out → out.length < 4000000000 → (out = [] ∨ d ≠ 0) → Ev (fun k => (slices_Reverse_byte_byte.f k (Dec.cs (out ++ [d]))).bind fun t205 => (some (strOfNums t205))) (Dec.dec (Dec.dv (out ++ [d]))) := by
  intro out d hd ho hl h0
  refine Ev.bind (slices_Reverse_byte_byte.ev (by rw [Dec.cs_length, List.length_append, List.length_singleton]; omega)) ?_
  rw [Dec.str_cs]
  by_cases hd0 : d = 0
  ·rcases h0 with h0 | h0
   ·subst hd0
    subst h0
    exact Ev.now _
   ·exact absurd hd0 h0
  ·unfold Dec.dec
   rw [Dec.dc_snoc ho hd hd0]
   exact Ev.now _
 induction n with
 | zero =>
  intro out hl hn h
  obtain rfl : out = [] := List.eq_nil_of_length_eq_zero hl
  refine Ev.step (f := fun _ => some (Dec.dec (Dec.dv []))) (fun k => ?_) (Ev.now _)
  rw [nat_Text.l2, Dec.cs_length, if_neg (by rw [List.length_nil]; omega), if_pos (by rw [List.length_nil]; omega)]
  exact congrArg some Dec.dec_zero.symm
 | succ n ih =>
  intro out hl hn h
  rcases List.eq_nil_or_concat out with rfl | ⟨l', d, rfl⟩
  ·simp at hl
  ·rw [List.concat_eq_append] at hl h ⊢
   have hd : d < 10 := h.right.head
   have hn' : l'.length = n := by simpa using hl
   have hlen : (Dec.cs (l' ++ [d])).length = l'.length + 1 := by rw [Dec.cs_length, List.length_append, List.length_singleton]
   have hp : wrap64 (((Dec.cs (l' ++ [d])).length : Int) - 1) = (l'.length : Int) := by rw [hlen, Dec.w64 (by omega) (by omega)]; omega
   by_cases h0 : n = 0
   ·obtain rfl : l' = [] := List.eq_nil_of_length_eq_zero (by omega)
    refine Ev.step (f := fun k => (slices_Reverse_byte_byte.f k (Dec.cs ([] ++ [d]))).bind fun t205 => (some (strOfNums t205))) (fun k => ?_) (fin [] d hd Dec.Ds.nil (by rw [List.length_nil]; omega) (.inl rfl))
    rw [nat_Text.l2, hlen, if_neg (by rw [List.length_nil]; omega), if_neg (by rw [List.length_nil]; omega)]
   ·by_cases hd0 : d = 0
    ·subst hd0
     refine Ev.step (f := fun k => nat_Text.l2 k (Dec.cs l')) (fun k => ?_) ?_
     ·rw [nat_Text.l2, hp, hlen, if_pos (by omega), if_pos (by omega), if_pos (by omega), Dec.rd_cs, if_pos (by omega), if_pos (by omega), Int.toNat_natCast, Dec.cs_take, List.take_left]
     ·rw [Dec.dv_snoc, Nat.mul_zero, Nat.add_zero]
      exact ih hn' (by omega) h.left
    ·refine Ev.step (f := fun k => (slices_Reverse_byte_byte.f k (Dec.cs (l' ++ [d]))).bind fun t205 => (some (strOfNums t205))) (fun k => ?_) (fin l' d hd h.left (by omega) (.inr hd0))
     rw [nat_Text.l2, hp, hlen, if_pos (by omega), if_pos (by omega), if_pos (by omega), Dec.rd_cs, if_neg (by omega), if_neg (by omega)]
/-- Nine digits of what is left, then what follows. -/
theorem nat_Text.ev_1 {x4 : List Int} {r : ByteArray} (out : List Nat) (ho : Dec.Ds out) (hl : out.length < 2000000000) (m : Nat)
  (next : ∀ o2 : List Nat, o2.length = out.length + 9 → Dec.Ds o2 → Dec.dv o2 = Dec.dv out + 10 ^ out.length * m → Ev (fun k => nat_Text.l0 k x4 (Dec.cs o2)) r) (d : Nat) : ∀ (q : Nat) (o2 : List Nat) (j : Nat), j + d = 9 → q < 10 ^ d → o2.length = out.length + j → Dec.Ds o2 → Dec.dv o2 + 10 ^ o2.length * q = Dec.dv out + 10 ^ out.length * m →
  Ev (fun k => nat_Text.l1 k (Dec.cs o2) x4 (q : Int) (j : Int)) r := by
 induction d with
 | zero =>
  intro q o2 j hj hq hlo hd hv
  obtain rfl : q = 0 := by rw [Nat.pow_zero] at hq; omega
  refine Ev.step (f := fun k => nat_Text.l0 k x4 (Dec.cs o2)) (fun k => ?_) (next o2 (by omega) hd (by rw [Nat.mul_zero, Nat.add_zero] at hv; exact hv))
  rw [nat_Text.l1, if_neg (by omega)]
 | succ d ih =>
  intro q o2 j hj hq hlo hd hv
  have hq9 : q < 10 ^ 9 := Nat.lt_of_lt_of_le hq (Nat.pow_le_pow_right (by omega) (by omega))
  have hq10 : q < 1000000000 := hq9
  refine Ev.step (f := fun k => nat_Text.l1 k (Dec.cs (o2 ++ [q % 10])) x4 ((q / 10 : Nat) : Int) ((j + 1 : Nat) : Int)) (fun k => ?_) ?_
  ·have e1 : (IntKind.u64.wrap (48 + ((q % 10 : Nat) : Int))) % 256 = ((48 + q % 10 : Nat) : Int) := by
    rw [show (48 : Int) + ((q % 10 : Nat) : Int) = ((48 + q % 10 : Nat) : Int) from by omega, u64_nat _ (by omega)]
    omega
   rw [nat_Text.l1, if_pos (by omega), if_pos (by rw [Dec.cs_length]; omega), Dec.tmod10, Dec.tdiv10, e1, u64_nat _ (by omega), Dec.cs_snoc, Dec.w64s _ (by omega)]
  ·refine ih (q / 10) _ (j + 1) (by omega) (by rw [Nat.pow_succ] at hq; omega) (by rw [List.length_append, List.length_singleton]; omega) (hd.snoc (Nat.mod_lt _ (by omega))) ?_
   rw [Dec.dv_snoc, List.length_append, List.length_singleton, Nat.pow_succ, ← hv]
   have h3 : 10 ^ o2.length * q = 10 ^ o2.length * (q % 10 + 10 * (q / 10)) := by congr 1; omega
   rw [Nat.mul_add, ← Nat.mul_assoc] at h3
   omega
theorem nat_Text.ev_0 (d : Nat) : ∀ (n : Nat) (out : List Nat), n < 1000000000 ^ d → (Num.nd n).length < 100000000 → out.length + 9 * d < 2000000000 → Dec.Ds out → Ev (fun k => nat_Text.l0 k (Num.nd n) (Dec.cs out)) (Dec.dec (Dec.dv out + 10 ^ out.length * n)) := by
 have stop : ∀ out : List Nat, out.length < 2000000000 → Dec.Ds out → Ev (fun k => nat_Text.l0 k (Num.nd 0) (Dec.cs out)) (Dec.dec (Dec.dv out + 10 ^ out.length * 0)) := by
  intro out hl ho
  rw [Nat.mul_zero, Nat.add_zero, Num.nd_zero]
  refine Ev.step (f := fun k => nat_Text.l2 k (Dec.cs out)) (fun k => ?_) (nat_Text.ev_2 _ rfl (by omega) ho)
  rw [nat_Text.l0, if_neg (by rw [List.length_nil]; omega)]
 induction d with
 | zero =>
  intro n out hn hl ho hd
  obtain rfl : n = 0 := by rw [Nat.pow_zero] at hn; omega
  exact stop out (by omega) hd
 | succ d ih =>
  intro n out hn hl ho hd
  by_cases h0 : n = 0
  ·subst h0
   exact stop out (by omega) hd
  ·have h2 : 0 < (Num.nd n).length := by
    rcases Nat.eq_zero_or_pos (Num.nd n).length with h | h
    ·exact absurd (Num.nd_eq_nil.1 (List.eq_nil_of_length_eq_zero h)) h0
    ·exact h
   obtain ⟨B, hB⟩ : ∃ B : Nat, B = 1000000000 := ⟨_, rfl⟩
   have hBi : (1000000000 : Int) = (B : Int) := by omega
   have hdm : ∀ k, nat_DivMod.f k (Num.nd n) (Num.nd B) = some (Num.nd (n / B), Num.nd (n % B), 0) := by
    intro k
    unfold nat_DivMod.f
    have h9 : (Num.nd B).length ≤ 1 := Num.nd_length_le (k := 1) (by rw [hB]; decide)
    rw [if_pos ((Num.okd_iff _).2 ⟨by omega, Num.Ws_nd _⟩), if_pos ((Num.okd_iff _).2 ⟨by omega, Num.Ws_nd _⟩), Num.nv_nd, Num.nv_nd, if_neg (by omega)]
   have hmod : n % B < 1000000000 := by rw [hB]; exact Nat.mod_lt _ (by omega)
   have hsm : ∀ k, nat_Small.f k (Num.nd (n % B)) = some (((n % B : Nat) : Int), true) := by
    intro k
    unfold nat_Small.f
    have h9 : (Num.nd (n % B)).length ≤ 1 := Num.nd_length_le (k := 1) (Nat.lt_trans hmod (by decide))
    rw [if_pos (Num.okw_of (by omega) (Num.Ws_nd _)), Num.nv_nd, if_pos (by omega)]
   have hof := nat_Of.ev B (by omega)
   refine Ev.step (f := fun k => (nat_Of.f k (B : Int)).bind fun t186 => ((nat_DivMod.f k (Num.nd n) t186).bind fun bt189 => ((nat_Small.f k bt189.2.1).bind fun bt196 => (nat_Text.l1 k (Dec.cs out) bt189.1 bt196.1 0)))) (fun k => ?_) (Ev.bind hof (Ev.bind (Ev.congr hdm (Ev.now _)) (Ev.bind (Ev.congr hsm (Ev.now _)) ?_)))
   ·rw [nat_Text.l0, if_pos (by omega), hBi]
   ·have hdv : (n / B) * B + n % B = n := by rw [Nat.mul_comm]; exact Nat.div_add_mod n B
    refine nat_Text.ev_1 out hd (by omega) (n % B) (fun o2 hl2 hd2 hv2 => ?_) 9 (n % B) out 0 (by omega) hmod rfl hd rfl
    have := ih (n / B) o2 (by rw [Nat.pow_succ] at hn; rw [hB]; exact Nat.div_lt_of_lt_mul (by rw [Nat.mul_comm]; exact hn)) (Nat.lt_of_le_of_lt (Num.nd_len_mono (Nat.div_le_self _ _)) hl) (by omega) hd2
    rw [hv2, hl2, Nat.pow_add, show 10 ^ 9 = B from by rw [hB]] at this
    have e : Dec.dv out + 10 ^ out.length * (n % B) + 10 ^ out.length * B * (n / B) = Dec.dv out + 10 ^ out.length * n := by
     rw [Nat.mul_assoc, Nat.add_assoc, ← Nat.mul_add, Nat.mul_comm B, Nat.add_comm (n % B), hdv]
    rw [e] at this
    exact this
theorem nat_Text.ev {l : List Int} (hW : Num.Ws l) (hl : l.length < 10000000) : Ev (fun k => nat_Text.f k l) (Dec.dec (Num.nv l)) := by
 have hlt := Num.nv_lt hW
 have hp : 2 ^ (32 * l.length) ≤ 1000000000 ^ (2 * l.length) := by
  rw [Nat.pow_mul, Nat.pow_mul]
  exact Nat.pow_le_pow_left (by decide) _
 have := nat_Text.ev_0 (2 * l.length) (Num.nv l) [] (Nat.lt_of_lt_of_le hlt hp) (Nat.lt_of_le_of_lt (Num.nd_length_le hlt) (by omega)) (by rw [List.length_nil]; omega) Dec.Ds.nil
 rw [List.length_nil, Dec.dv, Nat.pow_zero, Nat.one_mul, Nat.zero_add] at this
 unfold nat_Text.f
 exact Ev.bind (nat_trim.ev hW (by omega)) this
set_option synthInstance.checkSynthOrder false in
open Lin in
instance nat_Text.t {k : Nat} {l0 : List Int} {r : ByteArray} [h : Ans (nat_Text.f k l0) r] : Tl Try.prog 59 [.one (.row l0)] (.el (.one (.val (.string r)))) := ⟨Tells.of Try.func59 fun out w vs ho hl hv => by
 obtain ⟨u0, rfl, h0⟩ := args1 hl hv
 obtain ⟨A0, c0, rfl, hc0, hr0, hb0⟩ := h0
 refine (nat_Text.calls k A0 c0 l0 _ w hr0 hc0 h.out).mono ?_
 rintro e w' ⟨rfl, hb⟩
 exact ⟨_, rfl, ⟨rfl, rfl⟩, hb⟩⟩
def whole_Text.f (k : Nat) (a0_0 : Bool) (l0_1 : List Int) : Option (ByteArray) := (whole_Sign.f k a0_0 l0_1).bind fun t217 => (if t217 < 0 then ((nat_Text.f k l0_1).bind fun t218 => (if 1 + t218.size ≤ 9223372036854775807 then (some ((⟨#[45]⟩ : ByteArray) ++ t218)) else (none))) else ((nat_Text.f k l0_1).bind fun t219 => (some t219)))
theorem whole_Text.ev {m : Bool} {l : List Int} {z : Int} {K : Nat} (h : Zn.Is m l z K) (hK : K < 1000000) : Ev (fun k => whole_Text.f k m l) (Zn.tz z) := by
 have hl := h.len
 have T := nat_Text.ev h.ws (by omega)
 rw [← h.abs] at T
 unfold whole_Text.f
 refine Ev.bind (whole_Sign.ev h hK) ?_
 by_cases hz : z < 0
 ·rw [Zn.tz_neg hz]
  refine Dec.yes ((Zn.sign_lt z).2 hz) (Ev.bind T (Dec.yes ?_ (Ev.now _)))
  have := Dec.dc_len32 (n := z.natAbs) (k := K + 1) (by omega) (Num.le_pow h.lt (by omega))
  rw [Zn.dec_size]
  omega
 ·rw [Zn.tz_pos hz]
  exact Dec.no (fun e => hz ((Zn.sign_lt z).1 e)) (Ev.bind T (Ev.now _))
set_option synthInstance.checkSynthOrder false in
open Lin in
set_option maxHeartbeats 4000000 in
instance whole_Text.t {k : Nat} {a0_0 : Bool} {l0_1 : List Int} {r : ByteArray} [h : Ans (whole_Text.f k a0_0 l0_1) r] : Tl Try.prog 20 [.agg [.val (.bool a0_0), .row l0_1]] (.el (.one (.val (.string r)))) := by
 have h := h.out
 unfold whole_Text.f at h
 repeat' (first | (replace h := Lin.bndK h) | (replace h := Lin.bnd h; obtain ⟨_, _, h⟩ := h) | split at h | cases h)
 all_goals exact ⟨Tells.go Try.func20 Try.ntmps20⟩
def whole_Of.f (k : Nat) (a0 : Int) : Option (Bool × List Int) := (nat_Of.f k (IntKind.u64.wrap (mx a0 (wrap64 (-a0))))).bind fun t231 => ((whole_Make.f k (decide (a0 < 0)) t231).bind fun bt234 => (some (bt234.1, bt234.2)))
theorem whole_Of.ev (n : Int) (h0 : -9223372036854775808 ≤ n) (h1 : n < 9223372036854775808) : Ev (fun k => whole_Of.f k n) (Zn.zd n) := by
 have e : IntKind.u64.wrap (mx n (wrap64 (-n))) = (n.natAbs : Int) := by
  have u : ∀ x : Int, IntKind.u64.wrap x = x % 18446744073709551616 := fun x => by simp [IntKind.wrap, IntKind.bits, IntKind.signed]
  rw [u]
  by_cases hm : n = -9223372036854775808
  ·subst hm
   have w : wrap64 (- (-9223372036854775808 : Int)) = -9223372036854775808 := by unfold wrap64; omega
   rw [w]
   unfold mx
   split <;> omega
  ·rw [Dec.w64 (by omega) (by omega)]
   unfold mx
   split <;> omega
 have O := nat_Of.ev n.natAbs (by omega)
 unfold whole_Of.f
 rw [e]
 have M := whole_Make.ev (Zn.Is.nd (K := 2) (n := n.natAbs) (m := decide (n < 0)) (by omega)) (by omega)
 rw [Zn.zv_self] at M
 exact Ev.bind O (Ev.bind M (Ev.now _))
set_option synthInstance.checkSynthOrder false in
open Lin in
set_option maxHeartbeats 4000000 in
instance whole_Of.t {k : Nat} {a0 : Int} {r : Bool × List Int} [h : Ans (whole_Of.f k a0) r] : Tl Try.prog 26 [.one (.val (.int .i64 a0))] (.el (.agg [.val (.bool r.1), .row r.2])) := by
 have h := h.out
 unfold whole_Of.f at h
 repeat' (first | (replace h := Lin.bndK h) | (replace h := Lin.bnd h; obtain ⟨_, _, h⟩ := h) | split at h | cases h)
 all_goals exact ⟨Tells.go Try.func26 Try.ntmps26⟩
def nat_Add.l0 : Nat → List Int → List Int → List Int → Int → Int → Int → Option (List Int)
 | 0, _, _, _, _, _, _ => none
 | k + 1, x0, x1, x5, x6, x16, x17 => if x17 < x16 then ((nat_at.f x0 x17).bind fun t270 => ((nat_at.f x1 x17).bind fun t271 => (if 0 ≤ x17 then (if x17 < (x5.length : Int) then (nat_Add.l0 k x0 x1 (x5.set (x17 : Int).toNat ((IntKind.u64.wrap (x6 + (IntKind.u64.wrap (t270 + t271)))) % 4294967296)) ((IntKind.u64.wrap (x6 + (IntKind.u64.wrap (t270 + t271)))) / 4294967296) x16 (wrap64 (x17 + 1))) else (none)) else (none)))) else ((nat_trim.f k x5).bind fun t273 => (some t273))
def nat_Add.f (k : Nat) (l0 : List Int) (l1 : List Int) : Option (List Int) := if 0 ≤ (wrap64 ((mx (l0.length : Int) (l1.length : Int)) + 1)) then (if (wrap64 ((mx (l0.length : Int) (l1.length : Int)) + 1) : Int).toNat ≤ 70368744177664 then ((some (List.replicate (wrap64 ((mx (l0.length : Int) (l1.length : Int)) + 1) : Int).toNat 0 : List Int)).bind fun y267 => (nat_Add.l0 k l0 l1 y267 0 (y267.length : Int) 0)) else (none)) else (none)
set_option maxHeartbeats 8000000 in
set_option maxRecDepth 100000 in
theorem nat_Add.calls (k : Nat) (A0 : Option Addr) (c0 : Nat) (l0 : List Int) (A1 : Option Addr) (c1 : Nat) (l1 : List Int) (r : List Int) (w : World) (hr0 : Kd.C (Kd.int .u32) w A0 l0.length l0) (hc0 : l0.length ≤ c0) (hr1 : Kd.C (Kd.int .u32) w A1 l1.length l1) (hc1 : l1.length ≤ c1) (h : nat_Add.f k l0 l1 = some r) :
  Calls Try.prog 75 #[.slice A0 l0.length c0, .slice A1 l1.length c1] w fun e w' => ∃ v0_ : Value, e = .returned (v0_) ∧ Kd.R (Kd.int .u32) 89 w' w.heap.size (fun _ => True) v0_ r ∧ Below w.heap.size w w' := by
 have HR0 := Aside0.mk hr0
 have HC0 := Aside0.mk hc0
 clear hr0 hc0
 have HR1 := Aside0.mk hr1
 have HC1 := Aside0.mk hc1
 clear hr1 hc1
 have HB := Aside0.mk (Below.refl w.heap.size w)
 have H : (if 0 ≤ (wrap64 ((mx (l0.length : Int) (l1.length : Int)) + 1)) then (if (wrap64 ((mx (l0.length : Int) (l1.length : Int)) + 1) : Int).toNat ≤ 70368744177664 then ((some (List.replicate (wrap64 ((mx (l0.length : Int) (l1.length : Int)) + 1) : Int).toNat 0 : List Int)).bind fun y267 => (nat_Add.l0 k l0 l1 y267 0 (y267.length : Int) 0)) else (none)) else (none)) = some r := h
 clear h
 obtain ⟨ji3, hji3⟩ : ∃ j_ : Int, (mx (l0.length : Int) (l1.length : Int)) = j_ := ⟨_, rfl⟩
 replace H : (if 0 ≤ (wrap64 ((ji3) + 1)) then (if (wrap64 ((ji3) + 1) : Int).toNat ≤ 70368744177664 then ((some (List.replicate (wrap64 ((ji3) + 1) : Int).toNat 0 : List Int)).bind fun y267 => (nat_Add.l0 k l0 l1 y267 0 (y267.length : Int) 0)) else (none)) else (none)) = some r := by first | (rw [hji3] at H; exact H) | (simp only [hji3] at H ⊢; exact H)
 (try (have hji3l : 0 ≤ ji3 := by (rw [← hji3]; unfold mx; (repeat' split) <;> omega)))
 (try (have hji3m : 0 ≤ ji3 := by omega))
 have hji3_ : (if (l0.length : Int) < (l1.length : Int) then (l1.length : Int) else (l0.length : Int)) = ji3 := hji3
 have hji3n : (if l0.length < l1.length then (l1.length : Int) else (l0.length : Int)) = ji3 := by rw [← hji3]; unfold mx; (repeat' split) <;> omega
 obtain ⟨ji4, hji4⟩ : ∃ j_ : Int, (wrap64 ((ji3) + 1)) = j_ := ⟨_, rfl⟩
 replace H : (if 0 ≤ (ji4) then (if (ji4 : Int).toNat ≤ 70368744177664 then ((some (List.replicate (ji4 : Int).toNat 0 : List Int)).bind fun y267 => (nat_Add.l0 k l0 l1 y267 0 (y267.length : Int) 0)) else (none)) else (none)) = some r := by first | (rw [hji4] at H; exact H) | (simp only [hji4] at H ⊢; exact H)
 have hji4w : (IntKind.i64.wrap ((ji3) + 1)) = ji4 := (i64_w _).trans hji4
 by_cases c5 : 0 ≤ (ji4)
 ·rw [if_pos c5] at H
  have c5b0 := eq_true c5
  have c5b1 : decide (0 ≤ (ji4)) = true := decide_eq_true c5
  clear c5
  by_cases c6 : (ji4 : Int).toNat ≤ 70368744177664
  ·rw [if_pos c6] at H
   have c6b0 := eq_true c6
   have c6b1 : decide ((ji4 : Int).toNat ≤ 70368744177664) = true := decide_eq_true c6
   clear c6
   obtain ⟨y267, hy267⟩ : ∃ y_ : List Int, y_ = (List.replicate (ji4 : Int).toNat 0) := ⟨_, rfl⟩
   replace H : (nat_Add.l0 k l0 l1 y267 0 (y267.length : Int) 0) = some r := by first | (rw [hy267]; with_reducible exact H) | (have H2_ := (Option.bind_some _ _).symm.trans H; rw [hy267]; with_reducible exact H2_) | (have H2_ := (Option.bind_some _ _).symm.trans H; with_reducible exact H2_) | with_reducible exact H | (rw [hy267]; exact H) | exact H
   have Ny267 := Aside0.mk hy267
   clear hy267
   have H' := Aside0.mk H
   clear H
   go_enter Try.func75, Try.ntmps75
   go_wp2_with (first | ((with_reducible refine gate_dst (N := 14) rfl ?_); refine Kd.R_make (Kd.int .u32) _ 89 rfl (N := 14) rfl 23 _ _ rfl ji4 rfl rfl Try.underlying23 (.int .u32 0) 4 info89 rfl (by decide) (by omega) 0 (ok := fun _ => True) (okp := fun _ => True) rfl (fun _ hk => hk) trivial (of_decide_eq_true (by first | (with_reducible assumption) | assumption)) (Nat.le_trans (Nat.mul_le_mul_right _ (of_decide_eq_true (by first | (with_reducible assumption) | assumption) : ji4.toNat ≤ 70368744177664)) (by omega)) (Below.refl _ _) (Nat.le_refl _) ?_; intro v268 w7 ho8 hb hg_ hnew_; clear hg_ hnew_; (first | rw [← Ny267.out] at ho8 | (simp only [Int.reduceToNat] at ho8; rw [← Ny267.out] at ho8)); have HO269 := Aside0.mk (Kd.R_lower ho8 (below_size (by repeat (first | (with_reducible first | exact HB.out | apply below_alloc | apply pw_below_drewN | apply below_drew1) | exact HB.out)))); replace HB := Aside0.mk (below_step (by repeat (first | (with_reducible first | exact HB.out | apply below_alloc | apply pw_below_drewN | apply below_drew1) | exact HB.out)) hb); clear hb ho8; obtain ⟨Ao9, co9, eo9⟩ := Kd.R_slice HO269.out; subst eo9))
   go_loopg [6, 17] k (fun kq v6 v17 w' => ∃ (x5_1 : List Int) (x6_1 : Int) (x17_1 : Int), v6 = .int .u64 x6_1 ∧ v17 = .int .i64 x17_1 ∧ Aside0 (nat_Add.l0 kq l0 l1 x5_1 x6_1 (y267.length : Int) x17_1 = some r) ∧ Aside0 (kq ≤ k) ∧ Aside0 (Kd.R (Kd.int .u32) 89 w' w.heap.size (fun _ => True) (.slice Ao9 y267.length co9) x5_1) ∧ Aside0 (Below w.heap.size w w'))
   case atStart => exact ⟨(y267), (0), (0), (by first | rfl | (simp; done) | (simp [*]; done)), (by first | rfl | (simp; done) | (simp [*]; done)), H', ⟨Nat.le_refl _⟩, ⟨by (with_reducible repeat (first | apply Kd.R_alloc | apply Kd.R_drewN | apply Kd.R_drew)); exact HO269.out⟩, ⟨by repeat (first | (with_reducible first | exact HB.out | apply below_alloc | apply pw_below_drewN | apply below_drew1) | exact HB.out)⟩⟩
   case round =>
    clear H'
    try clear c1
    try clear p2
    try clear c5
    try clear c5b0
    try clear c5b1
    try clear c6
    try clear c6b0
    try clear c6b1
    try clear p6
    try clear c7
    obtain ⟨x5_1, x6_1, x17_1, rfl, rfl, HA, HK1, HO_5, HB⟩ := hrel
    have hl5_1 := (Kd.R_reads' HO_5.out).1
    rw [hl5_1] at HO_5
    (try simp only [hl5_1])
    cases gk with
    | zero => exact absurd HA.out (by simp [nat_Add.l0])
    | succ k1 =>
     have H := HA.out
     clear HA
     simp only [nat_Add.l0] at H
     by_cases c10 : x17_1 < (y267.length : Int)
     ·rw [if_pos c10] at H
      have c10b0 : decide (x17_1 < (y267.length : Int)) = true := decide_eq_true c10
      (try (have c10z0 : decide (x17_1 < (x5_1.length : Int)) = true := by rw [← hl5_1]; exact c10b0))
      clear c10
      replace H := Option.bind_eq_some_iff.mp H
      obtain ⟨t270, A110, H⟩ := H
      try dsimp only at H
      have A11 := Aside0.mk A110
      clear A110
      replace H := Option.bind_eq_some_iff.mp H
      obtain ⟨t271, A120, H⟩ := H
      try dsimp only at H
      have A12 := Aside0.mk A120
      clear A120
      by_cases c13 : 0 ≤ x17_1
      ·rw [if_pos c13] at H
       have c13b0 : decide (0 ≤ x17_1) = true := decide_eq_true c13
       clear c13
       by_cases c14 : x17_1 < (x5_1.length : Int)
       ·rw [if_pos c14] at H
        have c14b0 : decide (x17_1 < (x5_1.length : Int)) = true := decide_eq_true c14
        clear c14
        obtain ⟨y272, hy272⟩ : ∃ y_ : List Int, y_ = (x5_1.set (x17_1 : Int).toNat ((IntKind.u64.wrap (x6_1 + (IntKind.u64.wrap (t270 + t271)))) % 4294967296)) := ⟨_, rfl⟩
        replace H : (nat_Add.l0 k1 l0 l1 y272 ((IntKind.u64.wrap (x6_1 + (IntKind.u64.wrap (t270 + t271)))) / 4294967296) (y267.length : Int) (wrap64 (x17_1 + 1))) = some r := by first | (rw [hy272]; with_reducible exact H) | (have H2_ := (Option.bind_some _ _).symm.trans H; rw [hy272]; with_reducible exact H2_) | (have H2_ := (Option.bind_some _ _).symm.trans H; with_reducible exact H2_) | with_reducible exact H | (rw [hy272]; exact H) | exact H
        have Ny272 := Aside0.mk hy272
        clear hy272
        have H' := Aside0.mk H
        clear H
        go_wp2_with (first | ((with_reducible refine gate_callee (f := 93) rfl ?_); refine Short.goesS_ (some 23) Try.func93 #[.slice A0 l0.length c0, .int .i64 x17_1] ?_; (with_reducible refine (nat_at.calls _ _ l0 x17_1 t270 _ (Kd.C_below HR0.out HB.out) HC0.out A11.out).mono ?_); rintro e w' ⟨rfl, ⟨nd, rfl⟩⟩; refine ⟨_, rfl, ?_⟩; (try (rw [drewN_self wr]; generalize hq_ : World.drewN wr _ = wr; have n0_ : Aside0 (Kd.R (Kd.int .u32) 89 wr w.heap.size (fun _ => True) (.slice Ao9 x5_1.length co9) x5_1) := ⟨by rw [← hq_]; exact HO_5.out⟩; have n1_ : Aside0 (Below w.heap.size w wr) := ⟨by rw [← hq_]; exact (by repeat (first | (with_reducible first | exact HB.out | apply below_alloc | apply pw_below_drewN | apply below_drew1) | exact HB.out))⟩; clear HO_5 HB hq_; have HO_5 := n0_; have HB := n1_; clear n0_ n1_))) | ((with_reducible refine gate_callee (f := 93) rfl ?_); refine Short.goesS_ (some 26) Try.func93 #[.slice A1 l1.length c1, .int .i64 x17_1] ?_; (with_reducible refine (nat_at.calls _ _ l1 x17_1 t271 _ (Kd.C_below HR1.out HB.out) HC1.out A12.out).mono ?_); rintro e w' ⟨rfl, ⟨nd, rfl⟩⟩; refine ⟨_, rfl, ?_⟩; (try (rw [drewN_self wr]; generalize hq_ : World.drewN wr _ = wr; have n0_ : Aside0 (Kd.R (Kd.int .u32) 89 wr w.heap.size (fun _ => True) (.slice Ao9 x5_1.length co9) x5_1) := ⟨by rw [← hq_]; exact HO_5.out⟩; have n1_ : Aside0 (Below w.heap.size w wr) := ⟨by rw [← hq_]; exact (by repeat (first | (with_reducible first | exact HB.out | apply below_alloc | apply pw_below_drewN | apply below_drew1) | exact HB.out))⟩; clear HO_5 HB hq_; have HO_5 := n0_; have HB := n1_; clear n0_ n1_)); have p15 : 0 ≤ (x17_1 : Int) := of_decide_eq_true (by first | (with_reducible assumption) | assumption); have q15 : (x17_1 : Int) < ((x5_1.length : Int) : Int) := of_decide_eq_true (by first | (with_reducible assumption) | assumption); obtain ⟨go15, co15, eo15, gb15, gl15, cl15, HG15⟩ := Kd.R_form HO_5.out (by omega); (first | cases eo15 | (injection eo15 with ea_ en_ ec_; (first | subst ea_ | (injection ea_ with ea_; subst ea_)); subst ec_; clear en_)); have GB15 := Aside0.mk gb15; have GG15 := Aside0.mk HG15; clear gb15 gl15 HG15; obtain ⟨hx15_0, hf15_0⟩ := Kd.R_celln 0 HO_5.out (x17_1 : Int) p15 q15; replace p15 := eq_true p15; replace q15 := eq_true q15; obtain ⟨hy16_, hz16_⟩ := Kd.R_celln 0 HO_5.out (x17_1 : Int) (of_decide_eq_true (by first | (with_reducible assumption) | assumption)) (of_decide_eq_true (by first | (with_reducible assumption) | assumption)); have HP16 := Kd.R_putg HO_5.out (x17_1 : Int) ((IntKind.u64.wrap (x6_1 + (IntKind.u64.wrap (t270 + t271)))) % 4294967296)) | ((with_reducible refine gate_store (t := 89) (p := 33) rfl ?_); refine store_event (t := 89) (p := 33) (v := ?vo_w17) (w1 := (wr.setCell ⟨go15, (x17_1 : Int).toNat, none⟩ (.int .u32 ((IntKind.u64.wrap (x6_1 + (IntKind.u64.wrap (t270 + t271)))) % 4294967296)))) ?hg ?ho ?hn ?hr ?_; (case ho => rfl); (case hg => rfl); (case hn => rfl); (case hr => first | (go_simp; done) | (go_simp; rfl)); intro w17 hw; have hg : wr.grownBy w17 (some go15) := (by rw [hw]; exact HP16.2); have hp_ : Kd.R (Kd.int .u32) 89 w17 w.heap.size (fun _ => True) (.slice (some ⟨go15, 0, none⟩) x5_1.length co9) y272 := (by rw [hw, Ny272.out]; exact HP16.1); clear HP16; replace HO_5 := Aside0.mk (hp_); replace HB := Aside0.mk ((by rw [hw]; exact below_set (HB.out) GB15.out : Below w.heap.size w w17)); clear hg hw hp_))
        (try simp only [← hl5_1])
        go_roundg k1
        case measure => have := HK1.out; omega
        case rel => exact ⟨(y272), ((IntKind.u64.wrap (x6_1 + (IntKind.u64.wrap (t270 + t271)))) / 4294967296), (wrap64 (x17_1 + 1)), (by first | rfl | (simp; done) | (simp [*]; done)), (by first | rfl | (simp; done) | (simp [*]; done)), H', ⟨by have := HK1.out; omega⟩, ⟨by (try simp only [hl5_1]); (with_reducible repeat (first | apply Kd.R_alloc | apply Kd.R_drewN | apply Kd.R_drew)); exact HO_5.out⟩, ⟨by repeat (first | (with_reducible first | exact HB.out | apply below_alloc | apply pw_below_drewN | apply below_drew1) | exact HB.out)⟩⟩
       ·rw [if_neg c14] at H
        exact absurd H (by simp)
      ·rw [if_neg c13] at H
       exact absurd H (by simp)
     ·rw [if_neg c10] at H
      have c10b0 : decide (x17_1 < (y267.length : Int)) = false := decide_eq_false c10
      (try (have c10z0 : decide (x17_1 < (x5_1.length : Int)) = false := by rw [← hl5_1]; exact c10b0))
      clear c10
      replace H := Option.bind_eq_some_iff.mp H
      obtain ⟨t273, A180, H⟩ := H
      replace H : (some t273) = some r := H
      have A18 := Aside0.mk A180
      clear A180
      obtain rfl := Option.some.inj H
      go_wp2_with (first | ((with_reducible refine gate_callee (f := 71) rfl ?_); refine Short.goesS_ (some 38) Try.func71 #[.slice Ao9 x5_1.length co9] ?_; (with_reducible refine (nat_trim.calls k1 _ _ x5_1 t273 _ ((Kd.R_reads' HO_5.out).2.2) ((Kd.R_reads' HO_5.out).2.1) A18.out).mono ?_); rintro e w19 ⟨v274, rfl, ho0, hb⟩; refine ⟨_, rfl, ?_⟩; have HO275 := Aside0.mk (Kd.R_lower (Kd.R_new' ho0 (Kd.R_lt HO_5.out)) (below_size (by repeat (first | (with_reducible first | exact HB.out | apply below_alloc | apply pw_below_drewN | apply below_drew1) | exact HB.out)))); replace HO_5 := Aside0.mk (Kd.R_elder' HO_5.out (Kd.R_base ho0) hb); replace HB := Aside0.mk (below_step (by repeat (first | (with_reducible first | exact HB.out | apply below_alloc | apply pw_below_drewN | apply below_drew1) | exact HB.out)) hb); (try clear hb); (try clear ho0)))
      go_ret
      exact ⟨_, by first | rfl | (simp [errW_none, errW_some] <;> rfl) | (simp only [← hji3, ← hji4]; first | rfl | (simp [errW_none, errW_some] <;> rfl)) | (simp [*, errW_none, errW_some] <;> rfl), by (with_reducible repeat (first | apply Kd.R_alloc | apply Kd.R_drewN | apply Kd.R_drew)); exact Kd.R_mono HO275.out (fun _ hk => trivial), by repeat (first | (with_reducible first | exact HB.out | apply below_alloc | apply pw_below_drewN | apply below_drew1) | exact HB.out)⟩
  ·rw [if_neg c6] at H
   exact absurd H (by simp)
 ·rw [if_neg c5] at H
  exact absurd H (by simp)

theorem nat_Add.ev_l {a b : List Int} (ha : Num.Ws a) (hb : Num.Ws b) {L : Nat} (hLa : a.length < L) (hLb : b.length < L) (hL : L < 35184372088832) (d : Nat) : ∀ (i : Nat) (x : List Int) (c : Nat), i + d = L → x.length = L → Num.Ws x → c ≤ 1 →
  Num.nv (x.take i) + 2 ^ (32 * i) * c = Num.nv (a.take i) + Num.nv (b.take i) → Ev (fun k => nat_Add.l0 k a b x (c : Int) (L : Int) (i : Int)) (Num.nd (Num.nv a + Num.nv b)) := by
 induction d with
 | zero =>
  intro i x c hi hx hW hc hv
  obtain rfl : i = L := by omega
  rw [List.take_of_length_le (by omega), List.take_of_length_le (by omega), List.take_of_length_le (by omega)] at hv
  have hva := Num.nv_lt ha
  have hvb := Num.nv_lt hb
  have hP : 2 ^ (32 * a.length) * 2 ≤ 2 ^ (32 * i) := by
   rw [← Nat.pow_succ]
   exact Nat.pow_le_pow_right (by omega) (by omega)
  have hQ : 2 ^ (32 * b.length) * 2 ≤ 2 ^ (32 * i) := by
   rw [← Nat.pow_succ]
   exact Nat.pow_le_pow_right (by omega) (by omega)
  obtain rfl : c = 0 := by
   rcases Nat.eq_zero_or_pos c with h | h
   ·exact h
   ·obtain rfl : c = 1 := by omega
    omega
  have hv2 : Num.nv x = Num.nv a + Num.nv b := by omega
  refine Ev.step (f := fun k => (nat_trim.f k x).bind fun t => some t) (fun k => ?_) ?_
  ·simp only [nat_Add.l0]
   rw [if_neg (by omega)]
  ·rw [← hv2]
   exact Ev.bind (nat_trim.ev hW (by omega)) (Ev.now _)
 | succ d ih =>
  intro i x c hi hx hW hc hv
  have hga := ha.getD i
  have hgb := hb.getD i
  obtain ⟨p, hp⟩ : ∃ p : Nat, (p : Int) = a.getD i 0 := ⟨(a.getD i 0).toNat, by omega⟩
  obtain ⟨q, hq⟩ : ∃ q : Nat, (q : Int) = b.getD i 0 := ⟨(b.getD i 0).toNat, by omega⟩
  have c1 : (i : Int) < (L : Int) := by omega
  have c2 : 0 ≤ (i : Int) := by omega
  have c3 : (i : Int) < (x.length : Int) := by omega
  refine Ev.step (f := fun k => nat_Add.l0 k a b (x.set i (((c + p + q) % 4294967296 : Nat) : Int)) (((c + p + q) / 4294967296 : Nat) : Int) (L : Int) ((i + 1 : Nat) : Int)) (fun k => ?_) ?_
  ·have e1 : IntKind.u64.wrap ((p : Int) + (q : Int)) = (p : Int) + (q : Int) := nat_trim.u64w (by omega) (by omega)
   have e2 : IntKind.u64.wrap ((c : Int) + ((p : Int) + (q : Int))) = ((c + p + q : Nat) : Int) := by rw [nat_trim.u64w (by omega) (by omega)]; omega
   have e3 : ((c + p + q : Nat) : Int) % 4294967296 = (((c + p + q) % 4294967296 : Nat) : Int) := by omega
   have e4 : ((c + p + q : Nat) : Int) / 4294967296 = (((c + p + q) / 4294967296 : Nat) : Int) := by omega
   have e5 : wrap64 ((i : Int) + 1) = ((i + 1 : Nat) : Int) := by rw [nat_trim.w64 (by omega) (by omega)]; omega
   simp only [nat_Add.l0]
   rw [if_pos c1, nat_at.sem ha, nat_at.sem hb]
   simp only [Option.bind_some]
   rw [if_pos c2, if_pos c3, ← hp, ← hq, e1, e2, e3, e4, e5]
   simp only [Int.toNat_natCast]
  ·refine ih (i + 1) _ _ (by omega) (by rw [List.length_set]; exact hx) (hW.set i (by omega) (by omega)) (by omega) ?_
   rw [Num.nv_set_take (by omega), Num.nv_take_succ, Num.nv_take_succ, Num.pow_succ32, Int.toNat_natCast, ← hp, ← hq, Int.toNat_natCast, Int.toNat_natCast]
   have := Num.split_mul (2 ^ (32 * i)) (c + p + q)
   have h2 : 2 ^ (32 * i) * (c + p + q) = 2 ^ (32 * i) * c + 2 ^ (32 * i) * p + 2 ^ (32 * i) * q := by rw [Nat.mul_add, Nat.mul_add]
   omega
theorem nat_Add.ev {a b : List Int} (ha : Num.okw a = true) (hb : Num.okw b = true) : Ev (fun k => nat_Add.f k a b) (Num.nd (Num.nv a + Num.nv b)) := by
 obtain ⟨la, wa⟩ := (Num.okw_iff a).1 ha
 obtain ⟨lb, wb⟩ := (Num.okw_iff b).1 hb
 obtain ⟨L, hL⟩ : ∃ L : Nat, wrap64 (mx (a.length : Int) (b.length : Int) + 1) = (L : Int) ∧ a.length < L ∧ b.length < L ∧ L ≤ 1099511627776 := by
  refine ⟨max a.length b.length + 1, ?_, by omega, by omega, by omega⟩
  rw [nat_trim.w64 (by unfold mx; split <;> omega) (by unfold mx; split <;> omega)]
  unfold mx
  split <;> omega
 obtain ⟨hL, h1, h2, h3⟩ := hL
 have := nat_Add.ev_l wa wb h1 h2 (by omega) L 0 (List.replicate L 0) 0 (by omega) (by simp) (Num.Ws.replicate _) (by omega) (by simp [Num.nv])
 unfold nat_Add.f
 rw [hL]
 refine Ev.congr (fun k => ?_) this
 rw [if_pos (show (0 : Int) ≤ (L : Int) from by omega), Int.toNat_natCast, if_pos (show L ≤ 70368744177664 from by omega)]
 simp only [Option.bind_some, List.length_replicate]
 rfl
set_option synthInstance.checkSynthOrder false in
open Lin in
instance nat_Add.t {k : Nat} {l0 : List Int} {l1 : List Int} {r : List Int} [h : Ans (nat_Add.f k l0 l1) r] : Tl Try.prog 75 [.one (.row l0), .one (.row l1)] (.el (.one (.row r))) := ⟨Tells.of Try.func75 fun out w vs ho hl hv => by
 obtain ⟨u0, u1, rfl, h0, h1⟩ := args2 hl hv
 obtain ⟨A0, c0, rfl, hc0, hr0, hb0⟩ := h0
 obtain ⟨A1, c1, rfl, hc1, hr1, hb1⟩ := h1
 refine (nat_Add.calls k A0 c0 l0 A1 c1 l1 _ w hr0 hc0 hr1 hc1 h.out).mono ?_
 rintro e w' ⟨v0_, rfl, gv0_, hb⟩
 exact ⟨_, rfl, row_R gv0_ ho, hb⟩⟩
def whole_Add.f (k : Nat) (a0_0 : Bool) (l0_1 : List Int) (a1_0 : Bool) (l1_1 : List Int) : Option (Bool × List Int) := (whole_Sign.f k a0_0 l0_1).bind fun t279 => ((whole_Sign.f k a1_0 l1_1).bind fun t280 => (if ((decide (t279 < 0)) == (decide (t280 < 0))) = true then ((whole_Sign.f k a0_0 l0_1).bind fun t281 => ((nat_Add.f k l0_1 l1_1).bind fun t282 => ((whole_Make.f k (decide (t281 < 0)) t282).bind fun bt285 => (some (bt285.1, bt285.2))))) else ((nat_Sub.f k l0_1 l1_1).bind fun bt289 => (if bt289.2 = true then ((whole_Sign.f k a0_0 l0_1).bind fun t293 => ((whole_Make.f k (decide (t293 < 0)) bt289.1).bind fun bt294 => (some (bt294.1, bt294.2)))) else ((nat_Sub.f k l1_1 l0_1).bind fun bt298 => ((whole_Sign.f k a1_0 l1_1).bind fun t302 => ((whole_Make.f k (decide (t302 < 0)) bt298.1).bind fun bt303 => (some (bt303.1, bt303.2)))))))))
theorem whole_Add.ev {m m' : Bool} {l l' : List Int} {a b : Int} {K : Nat} (ha : Zn.Is m l a K) (hb : Zn.Is m' l' b K) (hK : K < 900000) : Ev (fun k => whole_Add.f k m l m' l') (Zn.zd (a + b)) := by
 have oa := ha.ok (by omega)
 have ob := hb.ok (by omega)
 have la := ha.lt
 have lb := hb.lt
 unfold whole_Add.f
 refine Ev.bind (whole_Sign.ev ha (by omega)) (Ev.bind (whole_Sign.ev hb (by omega)) ?_)
 have da : decide (a.sign < 0) = decide (a < 0) := decide_eq_decide.2 (Zn.sign_lt a)
 have db : decide (b.sign < 0) = decide (b < 0) := decide_eq_decide.2 (Zn.sign_lt b)
 have A := nat_Add.ev oa ob
 have S1 := nat_Sub.ev oa ob
 have S2 := nat_Sub.ev ob oa
 rw [← ha.abs, ← hb.abs] at A S1 S2
 by_cases h : a < 0 ↔ b < 0
 ·refine Dec.yes (by rw [da, db, beq_iff_eq]; exact decide_eq_decide.2 h) (Ev.bind (whole_Sign.ev ha (by omega)) (Ev.bind A ?_))
  have M := whole_Make.ev (Zn.Is.nd (m := decide (a.sign < 0)) (Num.add_lt la lb)) (by omega)
  rw [da, Zn.add_same h] at M
  refine Ev.congr (fun k => ?_) (Ev.bind M (Ev.now _))
  rw [da]
 ·refine Dec.no (by rw [da, db, beq_iff_eq]; exact fun e => h (decide_eq_decide.1 e)) ?_
  by_cases hl : a.natAbs < b.natAbs
  ·rw [if_pos hl] at S1
   rw [if_neg (by omega)] at S2
   refine Ev.bind S1 (Dec.no (by decide) (Ev.bind S2 (Ev.bind (whole_Sign.ev hb (by omega)) ?_)))
   have M := whole_Make.ev (Zn.Is.nd (K := K) (n := b.natAbs - a.natAbs) (m := decide (b.sign < 0)) (by omega)) (by omega)
   rw [db, Zn.add_right h hl] at M
   refine Ev.congr (fun k => ?_) (Ev.bind M (Ev.now _))
   rw [db]
  ·rw [if_neg hl] at S1
   refine Ev.bind S1 (Dec.yes rfl (Ev.bind (whole_Sign.ev ha (by omega)) ?_))
   have M := whole_Make.ev (Zn.Is.nd (K := K) (n := a.natAbs - b.natAbs) (m := decide (a.sign < 0)) (by omega)) (by omega)
   rw [da, Zn.add_left h (by omega)] at M
   refine Ev.congr (fun k => ?_) (Ev.bind M (Ev.now _))
   rw [da]
set_option synthInstance.checkSynthOrder false in
open Lin in
set_option maxHeartbeats 4000000 in
instance whole_Add.t {k : Nat} {a0_0 : Bool} {l0_1 : List Int} {a1_0 : Bool} {l1_1 : List Int} {r : Bool × List Int} [h : Ans (whole_Add.f k a0_0 l0_1 a1_0 l1_1) r] : Tl Try.prog 64 [.agg [.val (.bool a0_0), .row l0_1], .agg [.val (.bool a1_0), .row l1_1]] (.el (.agg [.val (.bool r.1), .row r.2])) := by
 have h := h.out
 unfold whole_Add.f at h
 repeat' (first | (replace h := Lin.bndK h) | (replace h := Lin.bnd h; obtain ⟨_, _, h⟩ := h) | split at h | cases h)
 all_goals exact ⟨Tells.go Try.func64 Try.ntmps64⟩
def whole_Sub.f (k : Nat) (a0_0 : Bool) (l0_1 : List Int) (a1_0 : Bool) (l1_1 : List Int) : Option (Bool × List Int) := (whole_Neg.f k a1_0 l1_1).bind fun bt310 => ((whole_Add.f k a0_0 l0_1 bt310.1 bt310.2).bind fun bt314 => (some (bt314.1, bt314.2)))
theorem whole_Sub.ev {m m' : Bool} {l l' : List Int} {a b : Int} {K : Nat} (ha : Zn.Is m l a K) (hb : Zn.Is m' l' b K) (hK : K < 900000) : Ev (fun k => whole_Sub.f k m l m' l') (Zn.zd (a - b)) := by
 unfold whole_Sub.f
 rw [Int.sub_eq_add_neg]
 exact Ev.bind (whole_Neg.ev hb (by omega)) (Ev.bind (whole_Add.ev ha (Zn.Is.zd (Zn.abs_neg hb.lt)) hK) (Ev.now _))
set_option synthInstance.checkSynthOrder false in
open Lin in
set_option maxHeartbeats 4000000 in
instance whole_Sub.t {k : Nat} {a0_0 : Bool} {l0_1 : List Int} {a1_0 : Bool} {l1_1 : List Int} {r : Bool × List Int} [h : Ans (whole_Sub.f k a0_0 l0_1 a1_0 l1_1) r] : Tl Try.prog 86 [.agg [.val (.bool a0_0), .row l0_1], .agg [.val (.bool a1_0), .row l1_1]] (.el (.agg [.val (.bool r.1), .row r.2])) := by
 have h := h.out
 unfold whole_Sub.f at h
 repeat' (first | (replace h := Lin.bndK h) | (replace h := Lin.bnd h; obtain ⟨_, _, h⟩ := h) | split at h | cases h)
 all_goals exact ⟨Tells.go Try.func86 Try.ntmps86⟩
def whole_Floor_cl1.f (k : Nat) (a0_0 : Bool) (l0_1 : List Int) (a1_0 : Bool) (l1_1 : List Int) (a2_0 : Bool) (l2_1 : List Int) : Option (Bool × List Int) := (whole_Mul.f k a1_0 l1_1 a2_0 l2_1).bind fun bt322 => ((whole_Sub.f k a0_0 l0_1 bt322.1 bt322.2).bind fun bt326 => (some (bt326.1, bt326.2)))
theorem whole_Floor_cl1.ev {m m' m2 : Bool} {l l' l2 : List Int} {a b x : Int} {K J : Nat} (ha : Zn.Is m l a (K + J)) (hb : Zn.Is m' l' b K) (hx : Zn.Is m2 l2 x J) (hK : K + J < 900000) : Ev (fun k => whole_Floor_cl1.f k m l m' l' m2 l2) (Zn.zd (a - b * x)) := by
 unfold whole_Floor_cl1.f
 exact Ev.bind (whole_Mul.ev hb hx (by omega)) (Ev.bind (whole_Sub.ev ha (Zn.Is.zd (Zn.abs_mul hb.lt hx.lt)) hK) (Ev.now _))
set_option synthInstance.checkSynthOrder false in
open Lin in
set_option maxHeartbeats 4000000 in
instance whole_Floor_cl1.t {k : Nat} {a0_0 : Bool} {l0_1 : List Int} {a1_0 : Bool} {l1_1 : List Int} {a2_0 : Bool} {l2_1 : List Int} {r : Bool × List Int} [h : Ans (whole_Floor_cl1.f k a0_0 l0_1 a1_0 l1_1 a2_0 l2_1) r] : Tc Try.prog 85 [(25, [.val (.bool a0_0), .row l0_1]), (25, [.val (.bool a1_0), .row l1_1]), (25, [.val (.bool a2_0), .row l2_1])] (.el (.agg [.val (.bool r.1), .row r.2])) := by
 have h := h.out
 unfold whole_Floor_cl1.f at h
 repeat' (first | (replace h := Lin.bndK h) | (replace h := Lin.bnd h; obtain ⟨_, _, h⟩ := h) | split at h | cases h)
 all_goals exact ⟨TellsC.go3 Try.func85 Try.ntmps85⟩
def whole_Floor.f (k : Nat) (a0_0 : Bool) (l0_1 : List Int) (a1_0 : Bool) (l1_1 : List Int) : Option (Bool × List Int × Bool × List Int × Int) := (nat_DivMod.f k l0_1 l1_1).bind fun bt334 => (if bt334.2.2 = 0 then ((whole_Sign.f k a0_0 l0_1).bind fun t341 => ((whole_Sign.f k a1_0 l1_1).bind fun t342 => ((whole_Make.f k (decide ((wrap64 (t341 * t342)) < 0)) bt334.1).bind fun bt343 => ((whole_Floor_cl1.f k a0_0 l0_1 a1_0 l1_1 bt343.1 bt343.2).bind fun bt348 => ((whole_Sign.f k bt348.1 bt348.2).bind fun t352 => ((whole_Sign.f k a1_0 l1_1).bind fun t353 => (if (wrap64 (t352 * t353)) < 0 then ((whole_Of.f k 1).bind fun bt354 => ((whole_Sub.f k bt343.1 bt343.2 bt354.1 bt354.2).bind fun bt358 => ((whole_Floor_cl1.f k a0_0 l0_1 a1_0 l1_1 bt358.1 bt358.2).bind fun bt362 => (some (bt358.1, bt358.2, bt362.1, bt362.2, 0))))) else ((whole_Floor_cl1.f k a0_0 l0_1 a1_0 l1_1 bt343.1 bt343.2).bind fun bt366 => (some (bt343.1, bt343.2, bt366.1, bt366.2, 0)))))))))) else (some (false, ([] : List Int), false, ([] : List Int), bt334.2.2)))
theorem whole_Floor.ev0 {m m' : Bool} {l l' : List Int} {a b : Int} {K : Nat} (ha : Zn.Is m l a K) (hb : Zn.Is m' l' b K) (hK : K < 400000) (h0 : b = 0) : Ev (fun k => whole_Floor.f k m l m' l') (false, [], false, [], 5) := by
 have la := ha.len
 have lb := hb.len
 have D : ∀ k, nat_DivMod.f k l l' = some ([], [], 5) := fun k => by
  unfold nat_DivMod.f
  rw [if_pos ((Num.okd_iff l).2 ⟨by omega, ha.ws⟩), if_pos ((Num.okd_iff l').2 ⟨by omega, hb.ws⟩), if_pos (by rw [← hb.abs, h0]; rfl)]
 unfold whole_Floor.f
 exact Dec.val D (Dec.no (by decide) (Ev.now _))
theorem whole_Floor.ev {m m' : Bool} {l l' : List Int} {a b : Int} {K : Nat} (ha : Zn.Is m l a K) (hb : Zn.Is m' l' b K) (hK : K < 400000) (h0 : b ≠ 0) :
  Ev (fun k => whole_Floor.f k m l m' l') ((Zn.zd (Zn.fl a b).1).1, (Zn.zd (Zn.fl a b).1).2, (Zn.zd (Zn.fl a b).2).1, (Zn.zd (Zn.fl a b).2).2, 0) := by
 have la := ha.len
 have lb := hb.len
 have aa := ha.lt
 have D : ∀ k, nat_DivMod.f k l l' = some (Num.nd (a.natAbs / b.natAbs), Num.nd (a.natAbs % b.natAbs), 0) := fun k => by
  unfold nat_DivMod.f
  rw [if_pos ((Num.okd_iff l).2 ⟨by omega, ha.ws⟩), if_pos ((Num.okd_iff l').2 ⟨by omega, hb.ws⟩), if_neg (by rw [← hb.abs]; omega), ← ha.abs, ← hb.abs]
 have d : decide (wrap64 (a.sign * b.sign) < 0) = decide (a * b < 0) := by rw [Zn.w64_sign]; exact decide_eq_decide.2 (Zn.sign_mul_neg a b)
 have M := whole_Make.ev (Zn.Is.nd (m := decide (a * b < 0)) (Nat.lt_of_le_of_lt (Nat.div_le_self a.natAbs b.natAbs) aa)) (by omega)
 have eq : Zn.zv (decide (a * b < 0)) (a.natAbs / b.natAbs) = Zn.flq a b := rfl
 rw [eq] at M
 have hq : (Zn.flq a b).natAbs < 2 ^ (32 * K) := by
  unfold Zn.flq
  rw [Zn.natAbs_zv]
  exact Nat.lt_of_le_of_lt (Nat.div_le_self _ _) aa
 have Iq := Zn.Is.zd (Zn.abs_le hq (show K ≤ K + 1 by omega))
 have ha' := ha.le (show K ≤ K + (K + 1) by omega)
 have C1 := whole_Floor_cl1.ev ha' hb Iq (by omega)
 have er : a - b * Zn.flq a b = Zn.flr a b := rfl
 rw [er] at C1
 have hr : (Zn.flr a b).natAbs < 2 ^ (32 * K) := Nat.lt_trans (Zn.flr_lt a b h0) hb.lt
 have Ir := Zn.Is.zd hr
 unfold whole_Floor.f
 refine Dec.val D (Dec.yes rfl (Ev.bind (whole_Sign.ev ha (by omega)) (Ev.bind (whole_Sign.ev hb (by omega)) ?_)))
 refine Ev.congr (f := fun k => (whole_Make.f k (decide (a * b < 0)) (Num.nd (a.natAbs / b.natAbs))).bind fun bt310 => (whole_Floor_cl1.f k m l m' l' bt310.1 bt310.2).bind fun bt315 => (whole_Sign.f k bt315.1 bt315.2).bind fun t319 => (whole_Sign.f k m' l').bind fun t320 => if (wrap64 (t319 * t320)) < 0 then ((whole_Of.f k 1).bind fun bt321 => ((whole_Sub.f k bt310.1 bt310.2 bt321.1 bt321.2).bind fun bt325 => ((whole_Floor_cl1.f k m l m' l' bt325.1 bt325.2).bind fun bt329 => (some (bt325.1, bt325.2, bt329.1, bt329.2, 0))))) else ((whole_Floor_cl1.f k m l m' l' bt310.1 bt310.2).bind fun bt333 => (some (bt310.1, bt310.2, bt333.1, bt333.2, 0)))) (fun k => by rw [d]) ?_
 refine Ev.bind M (Ev.bind C1 (Ev.bind (whole_Sign.ev Ir (by omega)) (Ev.bind (whole_Sign.ev hb (by omega)) ?_)))
 by_cases hn : Zn.flr a b * b < 0
 ·have e1 : Zn.fl a b = (Zn.flq a b - 1, a - b * (Zn.flq a b - 1)) := if_pos hn
  rw [e1]
  have O := whole_Of.ev 1 (by omega) (by omega)
  have I1 : Zn.Is (Zn.zd 1).1 (Zn.zd 1).2 1 K := Zn.Is.zd (by
   have := hb.lt
   have : 1 ≤ b.natAbs := by omega
   show 1 < _
   rcases Nat.eq_zero_or_pos K with e | e
   ·subst e; omega
   ·exact Nat.lt_of_lt_of_le (show 1 < 2 ^ 32 by decide) (Nat.pow_le_pow_right (by omega) (by omega)))
  have S := whole_Sub.ev (Zn.Is.zd hq) I1 (by omega)
  have Ix : Zn.Is (Zn.zd (Zn.flq a b - 1)).1 (Zn.zd (Zn.flq a b - 1)).2 (Zn.flq a b - 1) (K + 1) := Zn.Is.zd (Zn.abs_sub hq I1.lt)
  have C2 := whole_Floor_cl1.ev ha' hb Ix (by omega)
  exact Dec.yes (by rw [Zn.w64_sign]; exact (Zn.sign_mul_neg _ _).2 hn) (Ev.bind O (Ev.bind S (Ev.bind C2 (Ev.now _))))
 ·have e1 : Zn.fl a b = (Zn.flq a b, Zn.flr a b) := if_neg hn
  rw [e1]
  exact Dec.no (by rw [Zn.w64_sign]; exact fun e => hn ((Zn.sign_mul_neg _ _).1 e)) (Ev.bind C1 (Ev.now _))
set_option synthInstance.checkSynthOrder false in
open Lin in
set_option maxHeartbeats 4000000 in
instance whole_Floor.t {k : Nat} {a0_0 : Bool} {l0_1 : List Int} {a1_0 : Bool} {l1_1 : List Int} {r : Bool × List Int × Bool × List Int × Int} [h : Ans (whole_Floor.f k a0_0 l0_1 a1_0 l1_1) r] : Tl Try.prog 60 [.agg [.val (.bool a0_0), .row l0_1], .agg [.val (.bool a1_0), .row l1_1]] (.tup [.agg [.val (.bool r.1), .row r.2.1], .agg [.val (.bool r.2.2.1), .row r.2.2.2.1], .one (.val (.int .i64 r.2.2.2.2))]) := by
 have h := h.out
 unfold whole_Floor.f at h
 repeat' (first | (replace h := Lin.bndK h) | (replace h := Lin.bnd h; obtain ⟨_, _, h⟩ := h) | split at h | cases h)
 all_goals exact ⟨Tells.goC Try.func60 Try.ntmps60⟩
def rat_Floor.f (k : Nat) (a0_0 : Bool) (l0_1 : List Int) (l0_2 : List Int) : Option (Bool × List Int) := (rat_den.f k a0_0 l0_1 l0_2).bind fun t372 => ((whole_Make.f k false t372).bind fun bt375 => ((whole_Floor.f k a0_0 l0_1 bt375.1 bt375.2).bind fun bt379 => (some (bt379.1, bt379.2.1))))
theorem rat_Floor.ev {m : Bool} {l1 l2 : List Int} {r : Rat} {K : Nat} (h : Qn.Is m l1 l2 r K) (hK1 : 1 ≤ K) (hK : K < 300000) : Ev (fun k => rat_Floor.f k m l1 l2) (Zn.zd r.floor) := by
 have lb := h.len
 have I : Zn.Is false (Qn.dl l2) ((Qn.dn (Num.nv l2) : Nat) : Int) K := ⟨Qn.ws_dl h.ws, Qn.len_dl lb hK1, by rw [Qn.nv_dl]; rfl⟩
 have d0 := Qn.dn_ne (Num.nv l2)
 have F := whole_Floor.ev h.num (Zn.Is.zd I.lt) (by omega) (by omega)
 rw [(Qn.fl_ediv _ d0).1, ← Qn.floor_mk _ d0, h.val] at F
 unfold rat_Floor.f
 exact Ev.bind (rat_den.ev h.ws (by omega)) (Ev.bind (whole_Make.ev I (by omega)) (Ev.bind F (Ev.now _)))
theorem rat_Floor.size {r : Rat} {K : Nat} (h : Qn.Sm r K) : r.floor.natAbs < 2 ^ (32 * (K + 1)) := by
 rw [Rat.floor_def, ← (Qn.fl_ediv r.num r.den_nz).1]
 have h1 := Zn.fl_size r.num (r.den : Int)
 have h2 := h.num
 rw [Num.pow_succ32]
 omega
set_option synthInstance.checkSynthOrder false in
open Lin in
set_option maxHeartbeats 4000000 in
instance rat_Floor.t {k : Nat} {a0_0 : Bool} {l0_1 : List Int} {l0_2 : List Int} {r : Bool × List Int} [h : Ans (rat_Floor.f k a0_0 l0_1 l0_2) r] : Tl Try.prog 21 [.agg [.val (.bool a0_0), .row l0_1, .row l0_2]] (.el (.agg [.val (.bool r.1), .row r.2])) := by
 have h := h.out
 unfold rat_Floor.f at h
 repeat' (first | (replace h := Lin.bndK h) | (replace h := Lin.bnd h; obtain ⟨_, _, h⟩ := h) | split at h | cases h)
 all_goals exact ⟨Tells.go Try.func21 Try.ntmps21⟩
def rat_Ceil.f (k : Nat) (a0_0 : Bool) (l0_1 : List Int) (l0_2 : List Int) : Option (Bool × List Int) := (rat_Neg.f k a0_0 l0_1 l0_2).bind fun bt444 => ((rat_Floor.f k bt444.1 bt444.2.1 bt444.2.2).bind fun bt451 => ((whole_Neg.f k bt451.1 bt451.2).bind fun bt455 => (some (bt455.1, bt455.2))))
theorem rat_Ceil.ev {m : Bool} {l1 l2 : List Int} {r : Rat} {K : Nat} (h : Qn.Is m l1 l2 r K) (hK1 : 1 ≤ K) (hK : K < 300000) : Ev (fun k => rat_Ceil.f k m l1 l2) (Zn.zd r.ceil) := by
 have S := (h.sm hK1).neg
 have N := whole_Neg.ev (Zn.Is.zd (rat_Floor.size S)) (by omega)
 rw [← Rat.ceil_eq_neg_floor_neg] at N
 unfold rat_Ceil.f
 exact Ev.bind (rat_Neg.ev h hK1 (by omega)) (Ev.bind (rat_Floor.ev (Qn.Is.qd S) hK1 hK) (Ev.bind N (Ev.now _)))
set_option synthInstance.checkSynthOrder false in
open Lin in
set_option maxHeartbeats 4000000 in
instance rat_Ceil.t {k : Nat} {a0_0 : Bool} {l0_1 : List Int} {l0_2 : List Int} {r : Bool × List Int} [h : Ans (rat_Ceil.f k a0_0 l0_1 l0_2) r] : Tl Try.prog 22 [.agg [.val (.bool a0_0), .row l0_1, .row l0_2]] (.el (.agg [.val (.bool r.1), .row r.2])) := by
 have h := h.out
 unfold rat_Ceil.f at h
 repeat' (first | (replace h := Lin.bndK h) | (replace h := Lin.bnd h; obtain ⟨_, _, h⟩ := h) | split at h | cases h)
 all_goals exact ⟨Tells.go Try.func22 Try.ntmps22⟩
def rat_Sign.f (k : Nat) (a0_0 : Bool) (l0_1 : List Int) (l0_2 : List Int) : Option (Int) := (whole_Sign.f k a0_0 l0_1).bind fun t460 => (some t460)
theorem rat_Sign.ev {m : Bool} {l1 l2 : List Int} {r : Rat} {K : Nat} (h : Qn.Is m l1 l2 r K) (hK : K < 400000) : Ev (fun k => rat_Sign.f k m l1 l2) r.num.sign := by
 have S := whole_Sign.ev h.num (by omega)
 have e := Qn.sign_num (Zn.zv m (Num.nv l1)) (Qn.dn (Num.nv l2)) (Qn.dn_ne _)
 rw [h.val] at e
 rw [e]
 unfold rat_Sign.f
 exact Ev.bind S (Ev.now _)
set_option synthInstance.checkSynthOrder false in
open Lin in
set_option maxHeartbeats 4000000 in
instance rat_Sign.t {k : Nat} {a0_0 : Bool} {l0_1 : List Int} {l0_2 : List Int} {r : Int} [h : Ans (rat_Sign.f k a0_0 l0_1 l0_2) r] : Tl Try.prog 14 [.agg [.val (.bool a0_0), .row l0_1, .row l0_2]] (.el (.one (.val (.int .i64 r)))) := by
 have h := h.out
 unfold rat_Sign.f at h
 repeat' (first | (replace h := Lin.bndK h) | (replace h := Lin.bnd h; obtain ⟨_, _, h⟩ := h) | split at h | cases h)
 all_goals exact ⟨Tells.go Try.func14 Try.ntmps14⟩
def rat_Div.f (k : Nat) (a0_0 : Bool) (l0_1 : List Int) (l0_2 : List Int) (a1_0 : Bool) (l1_1 : List Int) (l1_2 : List Int) : Option (Bool × List Int × List Int × Int) := (rat_Sign.f k a1_0 l1_1 l1_2).bind fun t487 => (if t487 = 0 then (some (false, ([] : List Int), ([] : List Int), 5)) else ((rat_Sign.f k a1_0 l1_1 l1_2).bind fun t488 => ((rat_den.f k a1_0 l1_1 l1_2).bind fun t489 => ((whole_Make.f k (decide (t488 < 0)) t489).bind fun bt492 => ((rat_Mul.f k a0_0 l0_1 l0_2 bt492.1 bt492.2 l1_1).bind fun bt497 => (some (bt497.1, bt497.2.1, bt497.2.2, 0)))))))
theorem rat_Div.sz {b : Rat} (h : b.num.sign = 0) : b = 0 := by
 have h1 : b.num = 0 := by
  rcases Zn.sign_cases b.num with ⟨_, e⟩ | ⟨e0, _⟩ | ⟨_, e⟩
  ·rw [e] at h; exact absurd h (by decide)
  ·exact e0
  ·rw [e] at h; exact absurd h (by decide)
 exact Rat.num_eq_zero.1 h1
theorem rat_Div.ev0 {m m' : Bool} {l1 l2 k1 k2 : List Int} {b : Rat} {J : Nat} (hb : Qn.Is m' k1 k2 b J) (hK : J < 300000) (h0 : b = 0) : Ev (fun k => rat_Div.f k m l1 l2 m' k1 k2) (false, [], [], 5) := by
 have S := rat_Sign.ev hb (by omega)
 unfold rat_Div.f
 refine Ev.bind S (Dec.yes ?_ (Ev.now _))
 rw [h0]
 rfl
theorem rat_Div.ev {m m' : Bool} {l1 l2 k1 k2 : List Int} {a b : Rat} {K J : Nat} (ha : Qn.Is m l1 l2 a K) (hb : Qn.Is m' k1 k2 b J) (hK1 : 1 ≤ K) (hJ1 : 1 ≤ J) (hK : K + J < 300000) (h0 : b ≠ 0) :
  Ev (fun k => rat_Div.f k m l1 l2 m' k1 k2) ((Qn.qd (a / b)).1, (Qn.qd (a / b)).2.1, (Qn.qd (a / b)).2.2, 0) := by
 have db := Qn.dn_lt hb.ws hb.len hJ1
 have lb := hb.len
 have S := rat_Sign.ev hb (by omega)
 have sg : b.num.sign = (Zn.zv m' (Num.nv k1)).sign := by
  have := Qn.sign_num (Zn.zv m' (Num.nv k1)) (Qn.dn (Num.nv k2)) (Qn.dn_ne _)
  rwa [hb.val] at this
 obtain ⟨s, hs⟩ : ∃ s, s = decide (b.num.sign < 0) := ⟨_, rfl⟩
 have I : Zn.Is s (Qn.dl k2) (Zn.zv s (Qn.dn (Num.nv k2))) J := ⟨Qn.ws_dl hb.ws, Qn.len_dl lb hJ1, by rw [Qn.nv_dl]⟩
 have p0 : Num.nv k1 ≠ 0 := by
  intro e
  apply h0
  apply rat_Div.sz
  rw [sg, e, Zn.zv_zero]
  rfl
 have T : Qn.Is (Zn.zd (Zn.zv s (Qn.dn (Num.nv k2)))).1 (Zn.zd (Zn.zv s (Qn.dn (Num.nv k2)))).2 k1 b⁻¹ J := by
  have Z := Zn.Is.zd I.lt
  refine ⟨?_, hb.num.ws, hb.num.len, ?_⟩
  ·rw [Z.val]
   exact Z
  ·rw [Z.val, Qn.dn_self p0, ← hb.val, Qn.inv_mk, Zn.natAbs_zv, hs, sg]
   congr 2
   exact decide_eq_decide.2 (Zn.sign_lt _)
 have M := rat_Mul.ev ha T hK1 hJ1 (by omega)
 rw [← Rat.div_def] at M
 unfold rat_Div.f
 refine Ev.bind S (Dec.no (fun e => h0 (rat_Div.sz e)) (Ev.bind S (Ev.bind (rat_den.ev hb.ws (by omega)) ?_)))
 rw [← hs]
 exact Ev.bind (whole_Make.ev I (by omega)) (Ev.bind M (Ev.now _))
set_option synthInstance.checkSynthOrder false in
open Lin in
set_option maxHeartbeats 4000000 in
instance rat_Div.t {k : Nat} {a0_0 : Bool} {l0_1 : List Int} {l0_2 : List Int} {a1_0 : Bool} {l1_1 : List Int} {l1_2 : List Int} {r : Bool × List Int × List Int × Int} [h : Ans (rat_Div.f k a0_0 l0_1 l0_2 a1_0 l1_1 l1_2) r] : Tl Try.prog 12 [.agg [.val (.bool a0_0), .row l0_1, .row l0_2], .agg [.val (.bool a1_0), .row l1_1, .row l1_2]] (.tup [.agg [.val (.bool r.1), .row r.2.1, .row r.2.2.1], .one (.val (.int .i64 r.2.2.2))]) := by
 have h := h.out
 unfold rat_Div.f at h
 repeat' (first | (replace h := Lin.bndK h) | (replace h := Lin.bnd h; obtain ⟨_, _, h⟩ := h) | split at h | cases h)
 all_goals exact ⟨Tells.go Try.func12 Try.ntmps12⟩
def rat_Int.f (k : Nat) (a0 : Int) : Option (Bool × List Int × List Int) := (whole_Of.f k a0).bind fun bt505 => ((nat_Of.f k 1).bind fun t509 => ((rat_Make.f k bt505.1 bt505.2 t509).bind fun bt512 => (some (bt512.1, bt512.2.1, bt512.2.2))))
theorem rat_Int.ev (n : Int) (h0 : -9223372036854775808 ≤ n) (h1 : n < 9223372036854775808) : Ev (fun k => rat_Int.f k n) (Qn.qd (n : Rat)) := by
 have M := rat_Make.ev (Zn.Is.zd (z := n) (K := 2) (by omega)) (Num.Ws_nd 1) (Num.nd_length_le (n := 1) (k := 2) (by decide)) (by omega) (by omega)
 rw [Num.nv_nd, Qn.dn_self (by decide), Qn.mk_one] at M
 unfold rat_Int.f
 exact Ev.bind (whole_Of.ev n h0 h1) (Ev.bind (nat_Of.ev 1 (by omega)) (Ev.bind M (Ev.now _)))
set_option synthInstance.checkSynthOrder false in
open Lin in
set_option maxHeartbeats 4000000 in
instance rat_Int.t {k : Nat} {a0 : Int} {r : Bool × List Int × List Int} [h : Ans (rat_Int.f k a0) r] : Tl Try.prog 25 [.one (.val (.int .i64 a0))] (.el (.agg [.val (.bool r.1), .row r.2.1, .row r.2.2])) := by
 have h := h.out
 unfold rat_Int.f at h
 repeat' (first | (replace h := Lin.bndK h) | (replace h := Lin.bnd h; obtain ⟨_, _, h⟩ := h) | split at h | cases h)
 all_goals exact ⟨Tells.go Try.func25 Try.ntmps25⟩
def rat_Of.f (k : Nat) (a0 : Int) (a1 : Int) : Option (Bool × List Int × List Int × Int) := (rat_Int.f k a0).bind fun bt520 => ((rat_Int.f k a1).bind fun bt527 => ((rat_Div.f k bt520.1 bt520.2.1 bt520.2.2 bt527.1 bt527.2.1 bt527.2.2).bind fun bt534 => (some (bt534.1, bt534.2.1, bt534.2.2.1, bt534.2.2.2))))
theorem rat_Of.sm {n : Int} (h0 : -9223372036854775808 ≤ n) (h1 : n < 9223372036854775808) : Qn.Sm (n : Rat) 2 := Qn.Sm.int (by omega) (by omega)
theorem rat_Of.ev0 {n : Int} (h0 : -9223372036854775808 ≤ n) (h1 : n < 9223372036854775808) : Ev (fun k => rat_Of.f k n 0) (false, [], [], 5) := by
 unfold rat_Of.f
 exact Ev.bind (rat_Int.ev n h0 h1) (Ev.bind (rat_Int.ev 0 (by omega) (by omega)) (Ev.bind (rat_Div.ev0 (Qn.Is.qd (rat_Of.sm (n := 0) (by omega) (by omega))) (by omega) rfl) (Ev.now _)))
theorem rat_Of.ev {n d : Int} (h0 : -9223372036854775808 ≤ n) (h1 : n < 9223372036854775808) (k0 : -9223372036854775808 ≤ d) (k1 : d < 9223372036854775808) (hd : d ≠ 0) :
  Ev (fun k => rat_Of.f k n d) ((Qn.qd ((n : Rat) / (d : Rat))).1, (Qn.qd ((n : Rat) / (d : Rat))).2.1, (Qn.qd ((n : Rat) / (d : Rat))).2.2, 0) := by
 unfold rat_Of.f
 exact Ev.bind (rat_Int.ev n h0 h1) (Ev.bind (rat_Int.ev d k0 k1) (Ev.bind (rat_Div.ev (Qn.Is.qd (rat_Of.sm h0 h1)) (Qn.Is.qd (rat_Of.sm k0 k1)) (by omega) (by omega) (by omega) (fun e => hd (Rat.intCast_eq_zero_iff.1 e))) (Ev.now _)))
set_option synthInstance.checkSynthOrder false in
open Lin in
set_option maxHeartbeats 4000000 in
instance rat_Of.t {k : Nat} {a0 : Int} {a1 : Int} {r : Bool × List Int × List Int × Int} [h : Ans (rat_Of.f k a0 a1) r] : Tl Try.prog 24 [.one (.val (.int .i64 a0)), .one (.val (.int .i64 a1))] (.tup [.agg [.val (.bool r.1), .row r.2.1, .row r.2.2.1], .one (.val (.int .i64 r.2.2.2))]) := by
 have h := h.out
 unfold rat_Of.f at h
 repeat' (first | (replace h := Lin.bndK h) | (replace h := Lin.bnd h; obtain ⟨_, _, h⟩ := h) | split at h | cases h)
 all_goals exact ⟨Tells.go Try.func24 Try.ntmps24⟩
def rat_Whole.f (k : Nat) (a0_0 : Bool) (l0_1 : List Int) (l0_2 : List Int) : Option (Bool) := (rat_Make.f k a0_0 l0_1 l0_2).bind fun bt543 => ((nat_Of.f k 1).bind fun t550 => ((nat_Compare.f k bt543.2.2 t550).bind fun t553 => (some (t553 == 0))))
theorem rat_Whole.ev {m : Bool} {l1 l2 : List Int} {r : Rat} {K : Nat} (h : Qn.Is m l1 l2 r K) (hK1 : 1 ≤ K) (hK : K < 300000) : Ev (fun k => rat_Whole.f k m l1 l2) (decide (r.den = 1)) := by
 have M := rat_Make.ev h.num h.ws h.len hK1 (by omega)
 rw [h.val] at M
 have od := Num.ok_nd (h.sm hK1).den (by omega)
 have o1 := Num.ok_nd (n := 1) (k := 1) (by decide) (by omega)
 have C : ∀ k, nat_Compare.f k (Num.nd r.den) (Num.nd 1) = some (Num.cmp r.den 1) := fun k => by unfold nat_Compare.f; rw [if_pos od, if_pos o1, Num.nv_nd, Num.nv_nd]
 unfold rat_Whole.f
 refine Ev.bind M (Ev.bind (nat_Of.ev 1 (by omega)) (Dec.val C ?_))
 have e : (Num.cmp r.den 1 == 0) = decide (r.den = 1) := by
  by_cases hd : r.den = 1
  ·rw [decide_eq_true hd, Num.cmp_eq hd]; rfl
  ·rw [decide_eq_false hd]
   exact beq_eq_false_iff_ne.2 (fun e => hd (Num.cmp_zero.1 e))
 rw [e]
 exact Ev.now _
set_option synthInstance.checkSynthOrder false in
open Lin in
set_option maxHeartbeats 4000000 in
instance rat_Whole.t {k : Nat} {a0_0 : Bool} {l0_1 : List Int} {l0_2 : List Int} {r : Bool} [h : Ans (rat_Whole.f k a0_0 l0_1 l0_2) r] : Tl Try.prog 23 [.agg [.val (.bool a0_0), .row l0_1, .row l0_2]] (.el (.one (.val (.bool r)))) := by
 have h := h.out
 unfold rat_Whole.f at h
 repeat' (first | (replace h := Lin.bndK h) | (replace h := Lin.bnd h; obtain ⟨_, _, h⟩ := h) | split at h | cases h)
 all_goals exact ⟨Tells.go Try.func23 Try.ntmps23⟩
def rat_Text.f (k : Nat) (a0_0 : Bool) (l0_1 : List Int) (l0_2 : List Int) : Option (ByteArray) := (rat_Make.f k a0_0 l0_1 l0_2).bind fun bt555 => ((rat_Whole.f k bt555.1 bt555.2.1 bt555.2.2).bind fun t562 => (if t562 = true then ((whole_Text.f k bt555.1 bt555.2.1).bind fun t563 => (some t563)) else ((whole_Text.f k bt555.1 bt555.2.1).bind fun t564 => (if t564.size + 1 ≤ 9223372036854775807 then ((nat_Text.f k bt555.2.2).bind fun t565 => (if (t564 ++ (⟨#[47]⟩ : ByteArray)).size + t565.size ≤ 9223372036854775807 then (some ((t564 ++ (⟨#[47]⟩ : ByteArray)) ++ t565)) else (none))) else (none)))))
def rat_Text.tq (r : Rat) : ByteArray := if r.den = 1 then Zn.tz r.num else (Zn.tz r.num ++ (⟨#[47]⟩ : ByteArray)) ++ Dec.dec r.den
theorem rat_Text.ev {m : Bool} {l1 l2 : List Int} {r : Rat} {K : Nat} (h : Qn.Is m l1 l2 r K) (hK1 : 1 ≤ K) (hK : K < 300000) : Ev (fun k => rat_Text.f k m l1 l2) (rat_Text.tq r) := by
 have M := rat_Make.ev h.num h.ws h.len hK1 (by omega)
 rw [h.val] at M
 have S := h.sm hK1
 have T := whole_Text.ev (Zn.Is.zd S.num) (by omega)
 have B := nat_Text.ev (Num.Ws_nd r.den) (by have := Num.nd_length_le S.den; omega)
 rw [Num.nv_nd] at B
 have s1 := Zn.tz_size_le hK1 S.num
 have s2 := Dec.dc_len32 hK1 S.den
 unfold rat_Text.f rat_Text.tq
 refine Ev.bind M (Ev.bind (rat_Whole.ev (Qn.Is.qd S) hK1 hK) ?_)
 by_cases hd : r.den = 1
 ·rw [if_pos hd]
  exact Dec.yes (decide_eq_true hd) (Ev.bind T (Ev.now _))
 ·rw [if_neg hd]
  refine Dec.no (by rw [decide_eq_false hd]; decide) (Ev.bind T (Dec.yes (by omega) (Ev.bind B (Dec.yes ?_ (Ev.now _)))))
  rw [ByteArray.size_append, Zn.dec_size]
  have : (⟨#[47]⟩ : ByteArray).size = 1 := rfl
  omega
set_option synthInstance.checkSynthOrder false in
open Lin in
set_option maxHeartbeats 4000000 in
instance rat_Text.t {k : Nat} {a0_0 : Bool} {l0_1 : List Int} {l0_2 : List Int} {r : ByteArray} [h : Ans (rat_Text.f k a0_0 l0_1 l0_2) r] : Tl Try.prog 38 [.agg [.val (.bool a0_0), .row l0_1, .row l0_2]] (.el (.one (.val (.string r)))) := by
 have h := h.out
 unfold rat_Text.f at h
 repeat' (first | (replace h := Lin.bndK h) | (replace h := Lin.bnd h; obtain ⟨_, _, h⟩ := h) | split at h | cases h)
 all_goals exact ⟨Tells.go Try.func38 Try.ntmps38⟩
def nat_Right.f (l0 : List Int) : Option (Bool) := if (l0.length : Int) = 0 then (some true) else (if 0 ≤ (wrap64 ((l0.length : Int) - 1)) then (if (wrap64 ((l0.length : Int) - 1)) < (l0.length : Int) then (some ((rd l0 (wrap64 ((l0.length : Int) - 1))) != 0)) else (none)) else (none))
set_option maxHeartbeats 8000000 in
set_option maxRecDepth 100000 in
theorem nat_Right.calls (A0 : Option Addr) (c0 : Nat) (l0 : List Int) (r : Bool) (w : World) (hr0 : Kd.C (Kd.int .u32) w A0 l0.length l0) (hc0 : l0.length ≤ c0) (h : nat_Right.f l0 = some r) :
  Calls Try.prog 78 #[.slice A0 l0.length c0] w fun e w' => e = .returned (.bool r) ∧ Drawn0 w w' := by
 have HR0 := Aside0.mk hr0
 have HC0 := Aside0.mk hc0
 clear hr0 hc0
 have H : (if (l0.length : Int) = 0 then (some true) else (if 0 ≤ (wrap64 ((l0.length : Int) - 1)) then (if (wrap64 ((l0.length : Int) - 1)) < (l0.length : Int) then (some ((rd l0 (wrap64 ((l0.length : Int) - 1))) != 0)) else (none)) else (none))) = some r := h
 clear h
 by_cases c2 : (l0.length : Int) = 0
 ·rw [if_pos c2] at H
  have c2b0 : ((l0.length : Int) == 0) = true := beq_iff_eq.mpr c2
  have c2b1 : ((l0.length : Int) != 0) = false := bne_eq_false_iff_eq.mpr c2
  clear c2
  obtain rfl := Option.some.inj H
  go_enter Try.func78, Try.ntmps78
  go_wp2
  go_ret
  exact ⟨by first | rfl | (simp; done) | (simp [*]; done), by repeat (first | exact Drawn0.refl _ | apply Drawn0.step)⟩
 ·rw [if_neg c2] at H
  have c2b0 : ((l0.length : Int) == 0) = false := beq_eq_false_iff_ne.mpr c2
  have c2b1 : ((l0.length : Int) != 0) = true := bne_iff_ne.mpr c2
  have c2b2 : ¬ (l0 = []) := fun h_ => c2 (by rw [h_]; rfl)
  obtain ⟨ji3, hji3⟩ : ∃ j_ : Int, (wrap64 ((l0.length : Int) - 1)) = j_ := ⟨_, rfl⟩
  replace H : (if 0 ≤ (ji3) then (if (ji3) < (l0.length : Int) then (some ((rd l0 (ji3)) != 0)) else (none)) else (none)) = some r := by first | (rw [hji3] at H; exact H) | (simp only [hji3] at H ⊢; exact H)
  have hji3w : (IntKind.i64.wrap ((l0.length : Int) - 1)) = ji3 := (i64_w _).trans hji3
  by_cases c4 : 0 ≤ (ji3)
  ·rw [if_pos c4] at H
   have c4b0 : decide (0 ≤ (ji3)) = true := decide_eq_true c4
   clear c4
   by_cases c5 : (ji3) < (l0.length : Int)
   ·rw [if_pos c5] at H
    have c5b0 : decide ((ji3) < (l0.length : Int)) = true := decide_eq_true c5
    clear c5
    obtain rfl := Option.some.inj H
    have p566 : 0 ≤ ((ji3) : Int) := of_decide_eq_true (by first | (with_reducible assumption) | assumption)
    have q566 : (ji3) < (l0.length : Int) := of_decide_eq_true (by first | (with_reducible assumption) | assumption)
    obtain ⟨ad566, e566, hx566_0⟩ := Kd.at_int HR0.out (ji3) p566 q566
    cases e566
    replace p566 := eq_true p566
    replace q566 := eq_true q566
    go_enter Try.func78, Try.ntmps78
    go_wp2
    go_ret
    exact ⟨by first | rfl | (simp; done) | (simp only [← hji3] <;> (first | rfl | simp)) | (simp [*]; done), by repeat (first | exact Drawn0.refl _ | apply Drawn0.step)⟩
   ·rw [if_neg c5] at H
    exact absurd H (by simp)
  ·rw [if_neg c4] at H
   exact absurd H (by simp)

theorem nat_Right.sem {l : List Int} (h : 0 < l.length) (hl : l.length < 9223372036854775807) : nat_Right.f l = some (rd l (wrap64 ((l.length : Int) - 1)) != 0) := by
 unfold nat_Right.f
 have e := Dec.w64p l.length h (by omega)
 rw [if_neg (by omega), if_pos (by rw [e]; omega), if_pos (by rw [e]; omega)]
theorem nat_Right.nd {n : Nat} (hn : (Num.nd n).length < 9223372036854775807) : nat_Right.f (Num.nd n) = some true := by
 by_cases h : n = 0
 ·subst h
  rw [Num.nd_zero]
  rfl
 ·have h1 := Num.nd_last h
  have h2 : 0 < (Num.nd n).length := by
   rcases Nat.eq_zero_or_pos (Num.nd n).length with h0 | h0
   ·exact absurd (Num.nd_eq_nil.1 (List.eq_nil_of_length_eq_zero h0)) h
   ·exact h0
  rw [nat_Right.sem h2 hn, Dec.w64p _ h2 (by omega)]
  unfold rd
  rw [Int.toNat_natCast]
  congr 1
  simpa using h1
set_option synthInstance.checkSynthOrder false in
open Lin in
instance nat_Right.t {l0 : List Int} {r : Bool} [h : Ans (nat_Right.f l0) r] : Tl Try.prog 78 [.one (.row l0)] (.el (.one (.val (.bool r)))) := ⟨Tells.of Try.func78 fun out w vs ho hl hv => by
 obtain ⟨u0, rfl, h0⟩ := args1 hl hv
 obtain ⟨A0, c0, rfl, hc0, hr0, hb0⟩ := h0
 refine (nat_Right.calls A0 c0 l0 _ w hr0 hc0 h.out).mono ?_
 rintro e w' ⟨rfl, hb⟩
 exact ⟨_, rfl, ⟨rfl, rfl⟩, below_of_drawn hb⟩⟩
def whole_Right.f (a0_0 : Bool) (l0_1 : List Int) : Option (Bool) := (nat_Right.f l0_1).bind fun t568 => (if t568 = true then (if a0_0 = true then (some (decide ((l0_1.length : Int) > 0))) else (some true)) else (some false))
theorem whole_Right.zd {z : Int} {K : Nat} (h : z.natAbs < 2 ^ (32 * K)) (hK : K < 1000000) : whole_Right.f (Zn.zd z).1 (Zn.zd z).2 = some true := by
 have hn : (Num.nd z.natAbs).length < 9223372036854775807 := Nat.lt_of_le_of_lt (Num.nd_length_le h) (by omega)
 unfold whole_Right.f
 show (nat_Right.f (Num.nd z.natAbs)).bind (fun t => if t = true then (if decide (z < 0) = true then some (decide (((Num.nd z.natAbs).length : Int) > 0)) else some true) else some false) = some true
 rw [nat_Right.nd hn, Option.bind_some, if_pos rfl]
 by_cases hz : z < 0
 ·have := (Zn.nd_len_pos z.natAbs).2 (by omega)
  rw [if_pos (decide_eq_true hz), decide_eq_true (by omega)]
 ·rw [if_neg (by rw [decide_eq_false hz]; decide)]
set_option synthInstance.checkSynthOrder false in
open Lin in
set_option maxHeartbeats 4000000 in
instance whole_Right.t {a0_0 : Bool} {l0_1 : List Int} {r : Bool} [h : Ans (whole_Right.f a0_0 l0_1) r] : Tl Try.prog 77 [.agg [.val (.bool a0_0), .row l0_1]] (.el (.one (.val (.bool r)))) := by
 have h := h.out
 unfold whole_Right.f at h
 repeat' (first | (replace h := Lin.bndK h) | (replace h := Lin.bnd h; obtain ⟨_, _, h⟩ := h) | split at h | cases h)
 all_goals exact ⟨Tells.go Try.func77 Try.ntmps77⟩
def rat_Right.f (k : Nat) (a0_0 : Bool) (l0_1 : List Int) (l0_2 : List Int) : Option (Bool) := (whole_Right.f a0_0 l0_1).bind fun t570 => (if t570 = true then ((nat_Right.f l0_2).bind fun t571 => (if t571 = true then (if (l0_2.length : Int) > 0 then ((nat_Gcd.f k l0_1 l0_2).bind fun t572 => ((nat_Of.f k 1).bind fun t575 => ((nat_Compare.f k t572 t575).bind fun t578 => (some (t578 == 0))))) else (some false)) else (some false))) else (some false))
theorem rat_Right.qd {r : Rat} {K : Nat} (h : Qn.Sm r K) (hK : K < 300000) : Ev (fun k => rat_Right.f k (Qn.qd r).1 (Qn.qd r).2.1 (Qn.qd r).2.2) true := by
 have hn : (Num.nd r.den).length < 9223372036854775807 := Nat.lt_of_le_of_lt (Num.nd_length_le h.den) (by omega)
 have G := nat_Gcd.ev (K := K) (by omega) (Num.Ws_nd r.num.natAbs) (Num.Ws_nd r.den) (Num.nd_length_le h.num) (Num.nd_length_le h.den)
 rw [Num.nv_nd, Num.nv_nd, r.reduced] at G
 have o1 := Num.ok_nd (n := 1) (k := 1) (by decide) (by omega)
 have C : ∀ k, nat_Compare.f k (Num.nd 1) (Num.nd 1) = some 0 := fun k => by unfold nat_Compare.f; rw [if_pos o1, if_pos o1, Num.cmp_eq rfl]
 have hp := (Zn.nd_len_pos r.den).2 r.den_nz
 have W := whole_Right.zd h.num (by omega)
 unfold rat_Right.f
 exact Dec.val (fun _ => W) (Dec.yes rfl (Dec.val (fun _ => nat_Right.nd hn) (Dec.yes rfl (Dec.yes (show ((Num.nd r.den).length : Int) > 0 by omega) (Ev.bind G (Ev.bind (nat_Of.ev 1 (by omega)) (Dec.val C (Ev.now _))))))))
set_option synthInstance.checkSynthOrder false in
open Lin in
set_option maxHeartbeats 4000000 in
instance rat_Right.t {k : Nat} {a0_0 : Bool} {l0_1 : List Int} {l0_2 : List Int} {r : Bool} [h : Ans (rat_Right.f k a0_0 l0_1 l0_2) r] : Tl Try.prog 44 [.agg [.val (.bool a0_0), .row l0_1, .row l0_2]] (.el (.one (.val (.bool r)))) := by
 have h := h.out
 unfold rat_Right.f at h
 repeat' (first | (replace h := Lin.bndK h) | (replace h := Lin.bnd h; obtain ⟨_, _, h⟩ := h) | split at h | cases h)
 all_goals exact ⟨Tells.go Try.func44 Try.ntmps44⟩
def offcutlaw03_awake.f (k : Nat)  : Option (Bool) := (rat_Of.f k 6 (-4)).bind fun bt579 => ((rat_Text.f k bt579.1 bt579.2.1 bt579.2.2.1).bind fun t588 => (if t588.toList = ([45, 51, 47, 50] : List UInt8) then (if bt579.2.2.2 = 0 then ((rat_Floor.f k bt579.1 bt579.2.1 bt579.2.2.1).bind fun bt589 => ((whole_Text.f k bt589.1 bt589.2).bind fun t593 => (if t593.toList = ([45, 50] : List UInt8) then ((rat_Ceil.f k bt579.1 bt579.2.1 bt579.2.2.1).bind fun bt594 => ((whole_Text.f k bt594.1 bt594.2).bind fun t598 => (if t598.toList = ([45, 49] : List UInt8) then ((rat_Right.f k bt579.1 bt579.2.1 bt579.2.2.1).bind fun t599 => (some t599)) else (some false)))) else (some false)))) else (some false)) else (some false)))
theorem offcutlaw03_awake.ev : Ev (fun k => offcutlaw03_awake.f k) true := by
 have O := rat_Of.ev (n := 6) (d := -4) (by omega) (by omega) (by omega) (by omega) (by omega)
 obtain ⟨r, hr⟩ : ∃ r : Rat, r = ((6 : Int) : Rat) / ((-4 : Int) : Rat) := ⟨_, rfl⟩
 rw [← hr] at O
 have er : r = mkRat (-3) 2 := by
  rw [hr, ← Rat.divInt_eq_div, show (-4 : Int) = -(((4 : Nat) : Int)) from rfl, Rat.divInt_neg', Rat.divInt_ofNat]
  exact (Rat.mkRat_eq_iff (by decide) (by decide)).2 (by decide)
 have en : r.num = -3 := by rw [er]; rfl
 have ed : r.den = 2 := by rw [er]; rfl
 have S : Qn.Sm r 1 := ⟨by rw [en]; decide, by rw [ed]; decide⟩
 have I := Qn.Is.qd S
 have T := rat_Text.ev I (by omega) (by omega)
 have F := rat_Floor.ev I (by omega) (by omega)
 have C := rat_Ceil.ev I (by omega) (by omega)
 have R := rat_Right.qd S (by omega)
 have fl : r.floor = -2 := by rw [er]; rfl
 have ce : r.ceil = -1 := by rw [er]; rfl
 rw [fl] at F
 rw [ce] at C
 have b2 : (-2 : Int).natAbs < 2 ^ (32 * 1) := by decide
 have b1 : (-1 : Int).natAbs < 2 ^ (32 * 1) := by decide
 have T2 := whole_Text.ev (Zn.Is.zd b2) (by omega)
 have T1 := whole_Text.ev (Zn.Is.zd b1) (by omega)
 have dig : ∀ d : Nat, d ≠ 0 → d < 10 → Dec.dec d = Dec.tx [d] := by
  intro d h0 h
  have e1 := Dec.dc_snoc Dec.Ds.nil h h0
  have e : Dec.dv ([] ++ [d]) = d := by simp [Dec.dv]
  rw [e] at e1
  unfold Dec.dec
  rw [e1]
  rfl
 have bts : ∀ t : ByteArray, t.toList = t.data.toList := fun t => by
  have := ByteArray.toList_mk t.data.toList
  rwa [Array.toArray_toList] at this
 have t2 : (Zn.tz (-2)).toList = ([45, 50] : List UInt8) := by
  rw [Zn.tz_neg (by omega), Zn.minus_toList, show (-2 : Int).natAbs = 2 from rfl, dig 2 (by omega) (by omega)]
  exact congrArg (List.cons 45) (ByteArray.toList_mk [50])
 have t1 : (Zn.tz (-1)).toList = ([45, 49] : List UInt8) := by
  rw [Zn.tz_neg (by omega), Zn.minus_toList, show (-1 : Int).natAbs = 1 from rfl, dig 1 (by omega) (by omega)]
  exact congrArg (List.cons 45) (ByteArray.toList_mk [49])
 have tt : (rat_Text.tq r).toList = ([45, 51, 47, 50] : List UInt8) := by
  unfold rat_Text.tq
  rw [if_neg (by omega), en, ed, Zn.tz_neg (by omega), show (-3 : Int).natAbs = 3 from rfl, dig 3 (by omega) (by omega), dig 2 (by omega) (by omega)]
  rw [bts, ByteArray.data_append, ByteArray.data_append, ByteArray.data_append, Array.toList_append, Array.toList_append, Array.toList_append]
  rfl
 unfold offcutlaw03_awake.f
 exact Ev.bind O (Ev.bind T (Dec.yes tt (Dec.yes rfl (Ev.bind F (Ev.bind T2 (Dec.yes t2 (Ev.bind C (Ev.bind T1 (Dec.yes t1 (Ev.bind R (Ev.now _)))))))))))
set_option synthInstance.checkSynthOrder false in
open Lin in
set_option maxHeartbeats 4000000 in
instance offcutlaw03_awake.t {k : Nat} [h : Ans (offcutlaw03_awake.f k) true] : Tl Try.prog 11 [] (.el (.one (.val (.bool true)))) := by
 have h := h.out
 unfold offcutlaw03_awake.f at h
 repeat' (first | (replace h := Lin.bndK h) | (replace h := Lin.bnd h; obtain ⟨_, _, h⟩ := h) | split at h | cases h)
 all_goals exact ⟨Tells.go Try.func11 Try.ntmps11⟩
def offcutref02_Made.f (a0 : Bool) (a1 : ByteArray) : Option (ByteArray) := if a0 = true then (if a1.toList = ([48] : List UInt8) then (some a1) else (if 1 + a1.size ≤ 9223372036854775807 then (some ((⟨#[45]⟩ : ByteArray) ++ a1)) else (none))) else (some a1)
theorem offcutref02_Made.sem (m : Bool) (n : Nat) (hn : (Dec.dc n).length < 9000000000000000000) : offcutref02_Made.f m (Dec.dec n) = some (Zn.tz (Zn.zv m n)) := by
 unfold offcutref02_Made.f
 rw [Zn.tz_zv]
 cases m
 ·rw [if_neg (by decide), if_neg (by simp)]
 ·rw [if_pos rfl]
  by_cases h : n = 0
  ·rw [if_pos ((Dec.dec_is0 n).2 h), if_neg (fun e => e.2 h)]
  ·rw [if_neg (fun e => h ((Dec.dec_is0 n).1 e)), if_pos (by rw [Zn.dec_size]; omega), if_pos ⟨rfl, h⟩]
set_option synthInstance.checkSynthOrder false in
open Lin in
set_option maxHeartbeats 4000000 in
instance offcutref02_Made.t {a0 : Bool} {a1 : ByteArray} {r : ByteArray} [h : Ans (offcutref02_Made.f a0 a1) r] : Tl Try.prog 48 [.one (.val (.bool a0)), .one (.val (.string a1))] (.el (.one (.val (.string r)))) := by
 have h := h.out
 unfold offcutref02_Made.f at h
 repeat' (first | (replace h := Lin.bndK h) | (replace h := Lin.bnd h; obtain ⟨_, _, h⟩ := h) | split at h | cases h)
 all_goals exact ⟨Tells.go Try.func48 Try.ntmps48⟩
def offcutref02_Below.f (a0 : ByteArray) : Option (Bool) := if 0 < (a0.size : Int) then (some ((bt a0 0) == 45)) else (none)
set_option maxHeartbeats 8000000 in
set_option maxRecDepth 100000 in
theorem offcutref02_Below.calls (a0 : ByteArray) (r : Bool) (w : World) (h : offcutref02_Below.f a0 = some r) :
  Calls Try.prog 52 #[.string a0] w fun e w' => e = .returned (.bool r) ∧ Drawn0 w w' := by
 have H : (if 0 < (a0.size : Int) then (some ((bt a0 0) == 45)) else (none)) = some r := h
 clear h
 by_cases c2 : 0 < (a0.size : Int)
 ·rw [if_pos c2] at H
  have c2b0 : decide (0 < (a0.size : Int)) = true := decide_eq_true c2
  have c2b1 : decide (0 < a0.size) = true := decide_eq_true (by omega)
  clear c2
  obtain rfl := Option.some.inj H
  have p3 : 0 ≤ (0 : Int) := (by omega)
  have q3 : 0 < a0.size := (by have : (0 : Int) < (a0.size : Int) := of_decide_eq_true (by first | (with_reducible assumption) | assumption); omega)
  have hx3 : ∀ h : 0 < a0.size, ((a0[0]'h).toNat : Int) = bt a0 0 := bt_at a0 0
  clear p3
  have qi3 : (0 < (a0.size : Int)) = True := eq_true (of_decide_eq_true (by first | (with_reducible assumption) | assumption))
  replace q3 := eq_true q3
  go_enter Try.func52, Try.ntmps52
  go_wp2
  go_ret
  exact ⟨by first | rfl | (simp; done) | (simp [*]; done), by repeat (first | exact Drawn0.refl _ | apply Drawn0.step)⟩
 ·rw [if_neg c2] at H
  exact absurd H (by simp)

theorem offcutref02_Below.sem (z : Int) : offcutref02_Below.f (Zn.tz z) = some (decide (z < 0)) := by
 unfold offcutref02_Below.f
 have := Zn.tz_size_pos z
 rw [if_pos (by omega)]
 congr 1
 by_cases h : z < 0
 ·rw [decide_eq_true h, (Zn.tz_head z).2 h]
  rfl
 ·rw [decide_eq_false h]
  exact beq_eq_false_iff_ne.2 (fun e => h ((Zn.tz_head z).1 e))
set_option synthInstance.checkSynthOrder false in
open Lin in
instance offcutref02_Below.t {a0 : ByteArray} {r : Bool} [h : Ans (offcutref02_Below.f a0) r] : Tl Try.prog 52 [.one (.val (.string a0))] (.el (.one (.val (.bool r)))) := ⟨Tells.of Try.func52 fun out w vs ho hl hv => by
 obtain ⟨u0, rfl, h0⟩ := args1 hl hv
 obtain rfl := h0.1
 refine (offcutref02_Below.calls a0 _ w h.out).mono ?_
 rintro e w' ⟨rfl, hb⟩
 exact ⟨_, rfl, ⟨rfl, rfl⟩, below_of_drawn hb⟩⟩
def offcutref01_Less.f (a0 : ByteArray) (a1 : ByteArray) : Option (Bool) := if (a0.size : Int) = (a1.size : Int) then (some (Op.bytesLess a0.toList a1.toList)) else (some (decide ((a0.size : Int) < (a1.size : Int))))
set_option maxHeartbeats 8000000 in
set_option maxRecDepth 100000 in
theorem offcutref01_Less.calls (a0 : ByteArray) (a1 : ByteArray) (r : Bool) (w : World) (h : offcutref01_Less.f a0 a1 = some r) :
  Calls Try.prog 57 #[.string a0, .string a1] w fun e w' => e = .returned (.bool r) ∧ Drawn0 w w' := by
 have H : (if (a0.size : Int) = (a1.size : Int) then (some (Op.bytesLess a0.toList a1.toList)) else (some (decide ((a0.size : Int) < (a1.size : Int))))) = some r := h
 clear h
 by_cases c3 : (a0.size : Int) = (a1.size : Int)
 ·rw [if_pos c3] at H
  have c3b0 : ((a0.size : Int) == (a1.size : Int)) = true := beq_iff_eq.mpr c3
  have c3b1 : ((a0.size : Int) != (a1.size : Int)) = false := bne_eq_false_iff_eq.mpr c3
  have c3b2 : (a0.size == a1.size) = true := by first | simpa using c3 | (simp at c3 ⊢; omega)
  clear c3
  obtain rfl := Option.some.inj H
  go_enter Try.func57, Try.ntmps57
  go_wp2
  go_ret
  exact ⟨by first | rfl | (simp; done) | (simp [*]; done), by repeat (first | exact Drawn0.refl _ | apply Drawn0.step)⟩
 ·rw [if_neg c3] at H
  have c3b0 : ((a0.size : Int) == (a1.size : Int)) = false := beq_eq_false_iff_ne.mpr c3
  have c3b1 : ((a0.size : Int) != (a1.size : Int)) = true := bne_iff_ne.mpr c3
  have c3b2 : (a0.size == a1.size) = false := by first | simpa using c3 | (simp at c3 ⊢; omega)
  obtain rfl := Option.some.inj H
  go_enter Try.func57, Try.ntmps57
  go_wp2
  go_ret
  exact ⟨by first | rfl | (simp; done) | (simp [*]; done), by repeat (first | exact Drawn0.refl _ | apply Drawn0.step)⟩

theorem offcutref01_Less.sem (m n : Nat) : offcutref01_Less.f (Dec.dec m) (Dec.dec n) = some (decide (m < n)) := by
 unfold offcutref01_Less.f
 by_cases h : (Dec.dec m).size = (Dec.dec n).size
 ·rw [if_pos (by omega), Dec.less_dec m n h]
 ·rw [if_neg (by omega)]
  congr 1
  unfold Dec.dec at h ⊢
  rw [Dec.tx_size, Dec.tx_size] at h ⊢
  rcases Nat.lt_or_ge (Dec.dc m).length (Dec.dc n).length with h1 | h1
  ·rw [decide_eq_true (Dec.dc_len_lt h1), decide_eq_true (by omega)]
  ·have := Dec.dc_len_lt (m := n) (n := m) (by omega)
   rw [decide_eq_false (by omega), decide_eq_false (by omega)]
set_option synthInstance.checkSynthOrder false in
open Lin in
instance offcutref01_Less.t {a0 : ByteArray} {a1 : ByteArray} {r : Bool} [h : Ans (offcutref01_Less.f a0 a1) r] : Tl Try.prog 57 [.one (.val (.string a0)), .one (.val (.string a1))] (.el (.one (.val (.bool r)))) := ⟨Tells.of Try.func57 fun out w vs ho hl hv => by
 obtain ⟨u0, u1, rfl, h0, h1⟩ := args2 hl hv
 obtain rfl := h0.1
 obtain rfl := h1.1
 refine (offcutref01_Less.calls a0 a1 _ w h.out).mono ?_
 rintro e w' ⟨rfl, hb⟩
 exact ⟨_, rfl, ⟨rfl, rfl⟩, below_of_drawn hb⟩⟩
def offcutref01_sign.f (a0 : Int) : Option (ByteArray) := if 0 ≤ a0 then (if a0 ≤ (wrap64 (a0 + 1)) then (if (wrap64 (a0 + 1)) ≤ 10 then (some ((⟨#[48, 49, 50, 51, 52, 53, 54, 55, 56, 57]⟩ : ByteArray).extract (a0 : Int).toNat ((wrap64 (a0 + 1)) : Int).toNat)) else (none)) else (none)) else (none)
set_option maxHeartbeats 8000000 in
set_option maxRecDepth 100000 in
theorem offcutref01_sign.calls (a0 : Int) (r : ByteArray) (w : World) (h : offcutref01_sign.f a0 = some r) :
  Calls Try.prog 80 #[.int .i64 a0] w fun e w' => e = .returned (.string r) ∧ Drawn0 w w' := by
 have H : (if 0 ≤ a0 then (if a0 ≤ (wrap64 (a0 + 1)) then (if (wrap64 (a0 + 1)) ≤ 10 then (some ((⟨#[48, 49, 50, 51, 52, 53, 54, 55, 56, 57]⟩ : ByteArray).extract (a0 : Int).toNat ((wrap64 (a0 + 1)) : Int).toNat)) else (none)) else (none)) else (none)) = some r := h
 clear h
 by_cases c2 : 0 ≤ a0
 ·rw [if_pos c2] at H
  have c2b0 := eq_true c2
  have c2b1 : decide (0 ≤ a0) = true := decide_eq_true c2
  clear c2
  by_cases c3 : a0 ≤ (wrap64 (a0 + 1))
  ·rw [if_pos c3] at H
   have c3b0 := eq_true c3
   have c3b1 : decide (a0 ≤ (wrap64 (a0 + 1))) = true := decide_eq_true c3
   by_cases c4 : (wrap64 (a0 + 1)) ≤ 10
   ·rw [if_pos c4] at H
    have c4b0 := eq_true c4
    have c4b1 : decide ((wrap64 (a0 + 1)) ≤ 10) = true := decide_eq_true c4
    obtain rfl := Option.some.inj H
    go_enter Try.func80, Try.ntmps80
    go_wp2
    go_ret
    exact ⟨by first | rfl | (simp; done) | (simp [*]; done), by repeat (first | exact Drawn0.refl _ | apply Drawn0.step)⟩
   ·rw [if_neg c4] at H
    exact absurd H (by simp)
  ·rw [if_neg c3] at H
   exact absurd H (by simp)
 ·rw [if_neg c2] at H
  exact absurd H (by simp)

theorem offcutref01_sign.sem (d : Nat) (h : d < 10) : offcutref01_sign.f (d : Int) = some (Dec.tx [d]) := by
 have : d = 0 ∨ d = 1 ∨ d = 2 ∨ d = 3 ∨ d = 4 ∨ d = 5 ∨ d = 6 ∨ d = 7 ∨ d = 8 ∨ d = 9 := by omega
 unfold offcutref01_sign.f
 rw [if_pos (by omega), Dec.w64s _ (by omega), if_pos (by omega), if_pos (by omega), Int.toNat_natCast, Int.toNat_natCast]
 show some ((ByteArray.mk (([48, 49, 50, 51, 52, 53, 54, 55, 56, 57] : List UInt8).toArray)).extract d (d + 1)) = _
 rw [ByteArray.extract_mk]
 rcases this with rfl | rfl | rfl | rfl | rfl | rfl | rfl | rfl | rfl | rfl <;> rfl
def offcutref01_cut.l0 : Nat → ByteArray → Option (ByteArray)
 | 0, _ => none
 | k + 1, x0 => if (x0.size : Int) > 1 then (if 0 < (x0.size : Int) then (if (bt x0 0) = 48 then (if 1 ≤ (x0.size : Int) then (offcutref01_cut.l0 k (x0.extract 1 x0.size)) else (none)) else (if x0.toList = ([] : List UInt8) then (some (⟨#[48]⟩ : ByteArray)) else (some x0))) else (none)) else (if x0.toList = ([] : List UInt8) then (some (⟨#[48]⟩ : ByteArray)) else (some x0))
def offcutref01_cut.f (k : Nat) (a0 : ByteArray) : Option (ByteArray) := offcutref01_cut.l0 k a0
set_option maxHeartbeats 8000000 in
set_option maxRecDepth 100000 in
theorem offcutref01_cut.calls (k : Nat) (a0 : ByteArray) (r : ByteArray) (w : World) (h : offcutref01_cut.f k a0 = some r) :
  Calls Try.prog 81 #[.string a0] w fun e w' => e = .returned (.string r) ∧ Drawn0 w w' := by
 have H : (offcutref01_cut.l0 k a0) = some r := h
 clear h
 have H' := Aside0.mk H
 clear H
 go_enter Try.func81, Try.ntmps81
 go_wp2
 go_loopg [0] k (fun kq v0 w' => ∃ (x0_1 : ByteArray), v0 = .string x0_1 ∧ Aside0 (offcutref01_cut.l0 kq x0_1 = some r) ∧ Aside0 (kq ≤ k) ∧ Drawn0 w w')
 case atStart => exact ⟨(a0), (by first | rfl | (simp; done) | (simp [*]; done)), H', ⟨Nat.le_refl _⟩, by repeat (first | exact Drawn0.refl _ | apply Drawn0.step)⟩
 case round =>
  clear H'
  obtain ⟨x0_1, rfl, HA, HK1, ⟨m1, rfl⟩⟩ := hrel
  cases gk with
  | zero => exact absurd HA.out (by simp [offcutref01_cut.l0])
  | succ k1 =>
   have H := HA.out
   clear HA
   simp only [offcutref01_cut.l0] at H
   by_cases c2 : (x0_1.size : Int) > 1
   ·rw [if_pos c2] at H
    have c2b0 : decide (1 < (x0_1.size : Int)) = true := decide_eq_true c2
    have c2b1 : decide (1 < x0_1.size) = true := decide_eq_true (by omega)
    clear c2
    by_cases c3 : 0 < (x0_1.size : Int)
    ·rw [if_pos c3] at H
     have c3b0 : decide (0 < (x0_1.size : Int)) = true := decide_eq_true c3
     have c3b1 : decide (0 < x0_1.size) = true := decide_eq_true (by omega)
     clear c3
     by_cases c5 : (bt x0_1 0) = 48
     ·rw [if_pos c5] at H
      have c5b0 : ((bt x0_1 0) == 48) = true := beq_iff_eq.mpr c5
      have c5b1 : ((bt x0_1 0) != 48) = false := bne_eq_false_iff_eq.mpr c5
      clear c5
      by_cases c6 : 1 ≤ (x0_1.size : Int)
      ·rw [if_pos c6] at H
       have c6b0 := eq_true c6
       have c6b1 : decide (1 ≤ (x0_1.size : Int)) = true := decide_eq_true c6
       clear c6
       have H' := Aside0.mk H
       clear H
       have p4 : 0 ≤ (0 : Int) := (by omega)
       have q4 : 0 < x0_1.size := (by have : (0 : Int) < (x0_1.size : Int) := of_decide_eq_true (by first | (with_reducible assumption) | assumption); omega)
       have hx4 : ∀ h : 0 < x0_1.size, ((x0_1[0]'h).toNat : Int) = bt x0_1 0 := bt_at x0_1 0
       clear p4
       have qi4 : (0 < (x0_1.size : Int)) = True := eq_true (of_decide_eq_true (by first | (with_reducible assumption) | assumption))
       replace q4 := eq_true q4
       go_wp2
       go_roundg k1
       case measure => have := HK1.out; omega
       case rel => exact ⟨(x0_1.extract 1 x0_1.size), (by first | rfl | (simp; done) | (simp [*]; done)), H', ⟨by have := HK1.out; omega⟩, by repeat (first | exact Drawn0.refl _ | apply Drawn0.step)⟩
      ·rw [if_neg c6] at H
       exact absurd H (by simp)
     ·rw [if_neg c5] at H
      have c5b0 : ((bt x0_1 0) == 48) = false := beq_eq_false_iff_ne.mpr c5
      have c5b1 : ((bt x0_1 0) != 48) = true := bne_iff_ne.mpr c5
      by_cases c7 : x0_1.toList = ([] : List UInt8)
      ·rw [if_pos c7] at H
       have c7b0 : (x0_1.toList == ([] : List UInt8)) = true := beq_iff_eq.mpr c7
       have c7b1 : (x0_1.toList != ([] : List UInt8)) = false := bne_eq_false_iff_eq.mpr c7
       clear c7
       obtain rfl := Option.some.inj H
       have p4 : 0 ≤ (0 : Int) := (by omega)
       have q4 : 0 < x0_1.size := (by have : (0 : Int) < (x0_1.size : Int) := of_decide_eq_true (by first | (with_reducible assumption) | assumption); omega)
       have hx4 : ∀ h : 0 < x0_1.size, ((x0_1[0]'h).toNat : Int) = bt x0_1 0 := bt_at x0_1 0
       clear p4
       have qi4 : (0 < (x0_1.size : Int)) = True := eq_true (of_decide_eq_true (by first | (with_reducible assumption) | assumption))
       replace q4 := eq_true q4
       go_wp2
       go_ret
       exact ⟨by first | rfl | (simp; done) | (simp [*]; done), by repeat (first | exact Drawn0.refl _ | apply Drawn0.step)⟩
      ·rw [if_neg c7] at H
       have c7b0 : (x0_1.toList == ([] : List UInt8)) = false := beq_eq_false_iff_ne.mpr c7
       have c7b1 : (x0_1.toList != ([] : List UInt8)) = true := bne_iff_ne.mpr c7
       obtain rfl := Option.some.inj H
       have p4 : 0 ≤ (0 : Int) := (by omega)
       have q4 : 0 < x0_1.size := (by have : (0 : Int) < (x0_1.size : Int) := of_decide_eq_true (by first | (with_reducible assumption) | assumption); omega)
       have hx4 : ∀ h : 0 < x0_1.size, ((x0_1[0]'h).toNat : Int) = bt x0_1 0 := bt_at x0_1 0
       clear p4
       have qi4 : (0 < (x0_1.size : Int)) = True := eq_true (of_decide_eq_true (by first | (with_reducible assumption) | assumption))
       replace q4 := eq_true q4
       go_wp2
       go_ret
       exact ⟨by first | rfl | (simp; done) | (simp [*]; done), by repeat (first | exact Drawn0.refl _ | apply Drawn0.step)⟩
    ·rw [if_neg c3] at H
     exact absurd H (by simp)
   ·rw [if_neg c2] at H
    have c2b0 : decide (1 < (x0_1.size : Int)) = false := decide_eq_false c2
    have c2b1 : decide (1 < x0_1.size) = false := decide_eq_false (by omega)
    clear c2
    by_cases c8 : x0_1.toList = ([] : List UInt8)
    ·rw [if_pos c8] at H
     have c8b0 : (x0_1.toList == ([] : List UInt8)) = true := beq_iff_eq.mpr c8
     have c8b1 : (x0_1.toList != ([] : List UInt8)) = false := bne_eq_false_iff_eq.mpr c8
     clear c8
     obtain rfl := Option.some.inj H
     go_wp2
     go_ret
     exact ⟨by first | rfl | (simp; done) | (simp [*]; done), by repeat (first | exact Drawn0.refl _ | apply Drawn0.step)⟩
    ·rw [if_neg c8] at H
     have c8b0 : (x0_1.toList == ([] : List UInt8)) = false := beq_eq_false_iff_ne.mpr c8
     have c8b1 : (x0_1.toList != ([] : List UInt8)) = true := bne_iff_ne.mpr c8
     obtain rfl := Option.some.inj H
     go_wp2
     go_ret
     exact ⟨by first | rfl | (simp; done) | (simp [*]; done), by repeat (first | exact Drawn0.refl _ | apply Drawn0.step)⟩

theorem offcutref01_cut.ev_n (n : Nat) : ∀ {l : List Nat}, l.length = n → Dec.Ds l → Ev (fun k => offcutref01_cut.f k (Dec.tx l)) (Dec.dec (Dec.dv l)) := by
 induction n with
 | zero =>
  intro l hl h
  obtain rfl : l = [] := List.eq_nil_of_length_eq_zero hl
  refine Ev.step (f := fun _ => some (Dec.dec (Dec.dv []))) (fun k => ?_) (Ev.now _)
  show offcutref01_cut.l0 (k + 1) _ = _
  rw [offcutref01_cut.l0, Dec.tx_size, if_neg (by simp), if_pos (by rw [Dec.tx_toList]; rfl), ← Dec.dec_zero]
  rfl
 | succ n ih =>
  intro l hl h
  rcases List.eq_nil_or_concat l with rfl | ⟨l', d, rfl⟩
  ·simp at hl
  ·rw [List.concat_eq_append] at hl h ⊢
   have hd : d < 10 := h.right.head
   have hn : l'.length = n := by simpa using hl
   have hnn : (Dec.tx (l' ++ [d])).toList ≠ [] := by rw [Dec.tx_toList]; simp
   have hbt := Dec.bt_tx h 0 (by simp)
   rw [show (l' ++ [d]).length - 1 - 0 = l'.length from by simp] at hbt
   rw [show (l' ++ [d]).getD l'.length 0 = d from by simp] at hbt
   by_cases h0 : n = 0
   ·obtain rfl : l' = [] := List.eq_nil_of_length_eq_zero (by omega)
    refine Ev.step (f := fun _ => some (Dec.tx ([] ++ [d]))) (fun k => ?_) ?_
    ·show offcutref01_cut.l0 (k + 1) _ = _
     rw [offcutref01_cut.l0, Dec.tx_size, if_neg (by simp), if_neg hnn]
    ·by_cases hd0 : d = 0
     ·subst hd0
      exact Ev.now _
     ·unfold Dec.dec
      rw [Dec.dc_snoc Dec.Ds.nil hd hd0]
      exact Ev.now _
   ·by_cases hd0 : d = 0
    ·subst hd0
     refine Ev.step (f := fun k => offcutref01_cut.f k (Dec.tx l')) (fun k => ?_) ?_
     ·show offcutref01_cut.l0 (k + 1) _ = offcutref01_cut.l0 k _
      rw [offcutref01_cut.l0, Dec.tx_tail, Dec.tx_size, if_pos (by simp <;> omega), if_pos (by simp <;> omega), if_pos (by rw [← Int.natCast_zero, hbt] <;> rfl), if_pos (by simp <;> omega)]
     ·rw [Dec.dv_snoc, Nat.mul_zero, Nat.add_zero]
      exact ih hn h.left
    ·refine Ev.step (f := fun _ => some (Dec.tx (l' ++ [d]))) (fun k => ?_) ?_
     ·show offcutref01_cut.l0 (k + 1) _ = _
      rw [offcutref01_cut.l0, Dec.tx_size, if_pos (by simp <;> omega), if_pos (by simp <;> omega), if_neg (by rw [← Int.natCast_zero, hbt] <;> omega), if_neg hnn]
     ·unfold Dec.dec
      rw [Dec.dc_snoc h.left hd hd0]
      exact Ev.now _
theorem offcutref01_cut.ev {l : List Nat} (h : Dec.Ds l) : Ev (fun k => offcutref01_cut.f k (Dec.tx l)) (Dec.dec (Dec.dv l)) := offcutref01_cut.ev_n _ rfl h
def offcutref01_at.f (a0 : ByteArray) (a1 : Int) : Option (Int) := if a1 < (a0.size : Int) then (if 0 ≤ (wrap64 ((wrap64 ((a0.size : Int) - 1)) - a1)) then (if (wrap64 ((wrap64 ((a0.size : Int) - 1)) - a1)) < (a0.size : Int) then (some (((bt a0 (wrap64 ((wrap64 ((a0.size : Int) - 1)) - a1))) - 48) % 256)) else (none)) else (none)) else (some 0)
set_option maxHeartbeats 8000000 in
set_option maxRecDepth 100000 in
theorem offcutref01_at.calls (a0 : ByteArray) (a1 : Int) (r : Int) (w : World) (h : offcutref01_at.f a0 a1 = some r) :
  Calls Try.prog 82 #[.string a0, .int .i64 a1] w fun e w' => e = .returned (.int .i64 r) ∧ Drawn0 w w' := by
 have H : (if a1 < (a0.size : Int) then (if 0 ≤ (wrap64 ((wrap64 ((a0.size : Int) - 1)) - a1)) then (if (wrap64 ((wrap64 ((a0.size : Int) - 1)) - a1)) < (a0.size : Int) then (some (((bt a0 (wrap64 ((wrap64 ((a0.size : Int) - 1)) - a1))) - 48) % 256)) else (none)) else (none)) else (some 0)) = some r := h
 clear h
 by_cases c3 : a1 < (a0.size : Int)
 ·rw [if_pos c3] at H
  have c3b0 : decide (a1 < (a0.size : Int)) = true := decide_eq_true c3
  clear c3
  obtain ⟨ji4, hji4⟩ : ∃ j_ : Int, (wrap64 ((wrap64 ((a0.size : Int) - 1)) - a1)) = j_ := ⟨_, rfl⟩
  replace H : (if 0 ≤ (ji4) then (if (ji4) < (a0.size : Int) then (some (((bt a0 (ji4)) - 48) % 256)) else (none)) else (none)) = some r := by first | (rw [hji4] at H; exact H) | (simp only [hji4] at H ⊢; exact H)
  have hji4w : (IntKind.i64.wrap ((wrap64 ((a0.size : Int) - 1)) - a1)) = ji4 := (i64_w _).trans hji4
  by_cases c5 : 0 ≤ (ji4)
  ·rw [if_pos c5] at H
   have c5b0 : decide (0 ≤ (ji4)) = true := decide_eq_true c5
   clear c5
   by_cases c6 : (ji4) < (a0.size : Int)
   ·rw [if_pos c6] at H
    have c6b0 : decide ((ji4) < (a0.size : Int)) = true := decide_eq_true c6
    clear c6
    obtain rfl := Option.some.inj H
    have p7 : 0 ≤ ((ji4) : Int) := of_decide_eq_true (by first | (with_reducible assumption) | assumption)
    have q7 : (ji4) < (a0.size : Int) := of_decide_eq_true (by first | (with_reducible assumption) | assumption)
    have hx7 := bt_at a0 (ji4)
    replace p7 := eq_true p7
    replace q7 := eq_true q7
    go_enter Try.func82, Try.ntmps82
    go_wp2
    go_ret
    exact ⟨by first | rfl | (simp; done) | (simp only [← hji4] <;> (first | rfl | simp)) | (simp [*]; done), by repeat (first | exact Drawn0.refl _ | apply Drawn0.step)⟩
   ·rw [if_neg c6] at H
    exact absurd H (by simp)
  ·rw [if_neg c5] at H
   exact absurd H (by simp)
 ·rw [if_neg c3] at H
  have c3b0 : decide (a1 < (a0.size : Int)) = false := decide_eq_false c3
  clear c3
  obtain rfl := Option.some.inj H
  go_enter Try.func82, Try.ntmps82
  go_wp2
  go_ret
  exact ⟨by first | rfl | (simp; done) | (simp [*]; done), by repeat (first | exact Drawn0.refl _ | apply Drawn0.step)⟩

theorem offcutref01_at.sem {l : List Nat} (h : Dec.Ds l) (hl : l.length < 9223372036854775807) (i : Nat) : offcutref01_at.f (Dec.tx l) (i : Int) = some ((l.getD i 0 : Nat) : Int) := by
 unfold offcutref01_at.f
 rw [Dec.tx_size]
 by_cases hi : i < l.length
 ·rw [if_pos (by omega), Dec.w64p _ (by omega) (by omega), Dec.w64d _ _ (by omega) (by omega), if_pos (by omega), if_pos (by omega), Dec.bt_tx h _ (by omega)]
  have := h.getD i
  rw [show l.length - 1 - (l.length - 1 - i) = i from by omega]
  congr 1
  omega
 ·rw [if_neg (by omega), List.getD_eq_getElem?_getD, List.getElem?_eq_none (by omega)]
  rfl
def offcutref01_Sub.l0 : Nat → ByteArray → ByteArray → ByteArray → Int → Int → Option (ByteArray)
 | 0, _, _, _, _, _ => none
 | k + 1, x0, x1, x5, x6, x7 => if x7 < (x0.size : Int) then ((offcutref01_at.f x0 x7).bind fun t600 => ((offcutref01_at.f x1 x7).bind fun t601 => ((offcutref01_sign.f (Int.tmod (wrap64 ((wrap64 ((wrap64 (t600 - t601)) - x6)) + 10)) 10)).bind fun t602 => (if t602.size + x5.size ≤ 9223372036854775807 then (offcutref01_Sub.l0 k x0 x1 (t602 ++ x5) (wrap64 (1 - (wrap64 (Int.tdiv (wrap64 ((wrap64 ((wrap64 (t600 - t601)) - x6)) + 10)) 10)))) (wrap64 (x7 + 1))) else (none))))) else ((offcutref01_cut.f k x5).bind fun t603 => (some t603))
def offcutref01_Sub.f (k : Nat) (a0 : ByteArray) (a1 : ByteArray) : Option (ByteArray) := offcutref01_Sub.l0 k a0 a1 (⟨#[]⟩ : ByteArray) 0 0
set_option maxHeartbeats 8000000 in
set_option maxRecDepth 100000 in
theorem offcutref01_Sub.calls (k : Nat) (a0 : ByteArray) (a1 : ByteArray) (r : ByteArray) (w : World) (h : offcutref01_Sub.f k a0 a1 = some r) :
  Calls Try.prog 58 #[.string a0, .string a1] w fun e w' => e = .returned (.string r) ∧ Drawn0 w w' := by
 have H : (offcutref01_Sub.l0 k a0 a1 (⟨#[]⟩ : ByteArray) 0 0) = some r := h
 clear h
 have H' := Aside0.mk H
 clear H
 go_enter Try.func58, Try.ntmps58
 go_wp2
 go_loopg [5, 6, 7] k (fun kq v5 v6 v7 w' => ∃ (x5_1 : ByteArray) (x6_1 : Int) (x7_1 : Int), v5 = .string x5_1 ∧ v6 = .int .i64 x6_1 ∧ v7 = .int .i64 x7_1 ∧ Aside0 (offcutref01_Sub.l0 kq a0 a1 x5_1 x6_1 x7_1 = some r) ∧ Aside0 (kq ≤ k) ∧ Drawn0 w w')
 case atStart => exact ⟨((⟨#[]⟩ : ByteArray)), (0), (0), (by first | rfl | (simp; done) | (simp [*]; done)), (by first | rfl | (simp; done) | (simp [*]; done)), (by first | rfl | (simp; done) | (simp [*]; done)), H', ⟨Nat.le_refl _⟩, by repeat (first | exact Drawn0.refl _ | apply Drawn0.step)⟩
 case round =>
  clear H'
  try clear p2
  obtain ⟨x5_1, x6_1, x7_1, rfl, rfl, rfl, HA, HK1, ⟨m1, rfl⟩⟩ := hrel
  cases gk with
  | zero => exact absurd HA.out (by simp [offcutref01_Sub.l0])
  | succ k1 =>
   have H := HA.out
   clear HA
   simp only [offcutref01_Sub.l0] at H
   by_cases c3 : x7_1 < (a0.size : Int)
   ·rw [if_pos c3] at H
    have c3b0 : decide (x7_1 < (a0.size : Int)) = true := decide_eq_true c3
    clear c3
    replace H := Option.bind_eq_some_iff.mp H
    obtain ⟨t600, A40, H⟩ := H
    try dsimp only at H
    have A4 := Aside0.mk A40
    clear A40
    replace H := Option.bind_eq_some_iff.mp H
    obtain ⟨t601, A50, H⟩ := H
    try dsimp only at H
    have A5 := Aside0.mk A50
    clear A50
    replace H := Option.bind_eq_some_iff.mp H
    obtain ⟨t602, A60, H⟩ := H
    try dsimp only at H
    have A6 := Aside0.mk A60
    clear A60
    by_cases c7 : t602.size + x5_1.size ≤ 9223372036854775807
    ·rw [if_pos c7] at H
     have c7b0 := eq_true c7
     have c7b1 : decide (t602.size + x5_1.size ≤ 9223372036854775807) = true := decide_eq_true c7
     try have c7b2 : (9223372036854775807 < t602.size + x5_1.size) = False := eq_false (Nat.not_lt.2 c7)
     have H' := Aside0.mk H
     clear H
     go_wp2_with (first | ((with_reducible refine gate_callee (f := 82) rfl ?_); refine Short.goesS_ (some 17) Try.func82 #[.string a0, .int .i64 x7_1] ?_; (with_reducible refine (offcutref01_at.calls a0 x7_1 t600 _ A4.out).mono ?_); rintro e w' ⟨rfl, ⟨nd, rfl⟩⟩; refine ⟨_, rfl, ?_⟩) | ((with_reducible refine gate_callee (f := 82) rfl ?_); refine Short.goesS_ (some 20) Try.func82 #[.string a1, .int .i64 x7_1] ?_; (with_reducible refine (offcutref01_at.calls a1 x7_1 t601 _ A5.out).mono ?_); rintro e w' ⟨rfl, ⟨nd, rfl⟩⟩; refine ⟨_, rfl, ?_⟩) | ((with_reducible refine gate_callee (f := 80) rfl ?_); refine Short.goesS_ (some 27) Try.func80 #[.int .i64 (Int.tmod (wrap64 ((wrap64 ((wrap64 (t600 - t601)) - x6_1)) + 10)) 10)] ?_; (with_reducible refine (offcutref01_sign.calls (Int.tmod (wrap64 ((wrap64 ((wrap64 (t600 - t601)) - x6_1)) + 10)) 10) t602 _ A6.out).mono ?_); rintro e w' ⟨rfl, ⟨nd, rfl⟩⟩; refine ⟨_, rfl, ?_⟩))
     go_roundg k1
     case measure => have := HK1.out; omega
     case rel => exact ⟨(t602 ++ x5_1), (wrap64 (1 - (wrap64 (Int.tdiv (wrap64 ((wrap64 ((wrap64 (t600 - t601)) - x6_1)) + 10)) 10)))), (wrap64 (x7_1 + 1)), (by first | rfl | (simp; done) | (simp [*]; done)), (by first | rfl | (simp; done) | (simp [*]; done)), (by first | rfl | (simp; done) | (simp [*]; done)), H', ⟨by have := HK1.out; omega⟩, by repeat (first | exact Drawn0.refl _ | apply Drawn0.step)⟩
    ·rw [if_neg c7] at H
     exact absurd H (by simp)
   ·rw [if_neg c3] at H
    have c3b0 : decide (x7_1 < (a0.size : Int)) = false := decide_eq_false c3
    clear c3
    replace H := Option.bind_eq_some_iff.mp H
    obtain ⟨t603, A80, H⟩ := H
    replace H : (some t603) = some r := H
    have A8 := Aside0.mk A80
    clear A80
    obtain rfl := Option.some.inj H
    go_wp2_with (first | ((with_reducible refine gate_callee (f := 81) rfl ?_); refine Short.goesS_ (some 34) Try.func81 #[.string x5_1] ?_; (with_reducible refine (offcutref01_cut.calls k1 x5_1 t603 _ A8.out).mono ?_); rintro e w' ⟨rfl, ⟨nd, rfl⟩⟩; refine ⟨_, rfl, ?_⟩))
    go_ret
    exact ⟨by first | rfl | (simp; done) | (simp [*]; done), by repeat (first | exact Drawn0.refl _ | apply Drawn0.step)⟩

theorem offcutref01_Sub.ev_l {a b : List Nat} (ha : Dec.Ds a) (hb : Dec.Ds b) (la : a.length < 1000000000) (lb : b.length ≤ a.length) (hba : Dec.dv b ≤ Dec.dv a) (d : Nat) : ∀ (out : List Nat) (c : Nat), out.length + d = a.length → Dec.Ds out → c ≤ 1 →
  Dec.dv (a.take out.length) + 10 ^ out.length * c = Dec.dv out + Dec.dv (b.take out.length) → Ev (fun k => offcutref01_Sub.l0 k (Dec.tx a) (Dec.tx b) (Dec.tx out) (c : Int) (out.length : Int)) (Dec.dec (Dec.dv a - Dec.dv b)) := by
 induction d with
 | zero =>
  intro out c hd ho hc hv
  have h1 := Dec.dv_lt ho
  rw [List.take_of_length_le (by omega), List.take_of_length_le (by omega)] at hv
  have hvv : Dec.dv out = Dec.dv a - Dec.dv b := by
   rcases Nat.eq_zero_or_pos c with h | h
   ·subst h; omega
   ·obtain rfl : c = 1 := by omega
    omega
  refine Ev.step (f := fun k => (offcutref01_cut.f k (Dec.tx out)).bind fun t => some t) (fun k => ?_) ?_
  ·rw [offcutref01_Sub.l0, Dec.tx_size, if_neg (by omega)]
  ·rw [← hvv]
   exact Ev.bind (offcutref01_cut.ev ho) (Ev.now _)
 | succ d ih =>
  intro out c hd ho hc hv
  have h1 := ha.getD out.length
  have h2 := hb.getD out.length
  obtain ⟨p, hp⟩ : ∃ p, p = a.getD out.length 0 := ⟨_, rfl⟩
  obtain ⟨q, hq⟩ : ∃ q, q = b.getD out.length 0 := ⟨_, rfl⟩
  rw [← hp] at h1
  rw [← hq] at h2
  obtain ⟨n, hn⟩ : ∃ n, n = p + 10 - q - c := ⟨_, rfl⟩
  have e1 : wrap64 ((wrap64 ((wrap64 ((p : Int) - (q : Int))) - (c : Int))) + 10) = (n : Int) := by
   rw [Dec.w64 (n := (p : Int) - (q : Int)) (by omega) (by omega), Dec.w64 (n := (p : Int) - (q : Int) - (c : Int)) (by omega) (by omega), Dec.w64 (by omega) (by omega)]
   omega
  have e2 : wrap64 (1 - ((n / 10 : Nat) : Int)) = ((1 - n / 10 : Nat) : Int) := by
   rw [Dec.w64 (by omega) (by omega)]
   omega
  refine Ev.step (f := fun k => offcutref01_Sub.l0 k (Dec.tx a) (Dec.tx b) (Dec.tx (out ++ [n % 10])) ((1 - n / 10 : Nat) : Int) ((out.length + 1 : Nat) : Int)) (fun k => ?_) ?_
  ·rw [offcutref01_Sub.l0, Dec.tx_size, if_pos (by omega), offcutref01_at.sem ha (by omega), offcutref01_at.sem hb (by omega), ← hp, ← hq, Option.bind_some, Option.bind_some, e1, Dec.tmod10, Dec.tdiv10, offcutref01_sign.sem _ (Nat.mod_lt _ (by omega)), Option.bind_some, Dec.tx_append, Dec.tx_size, Dec.tx_size, if_pos (by rw [List.length_singleton]; omega), Dec.w64n _ (by omega), e2, Dec.w64s _ (by omega)]
  ·have := ih (out ++ [n % 10]) (1 - n / 10) (by rw [List.length_append, List.length_singleton]; omega) (ho.snoc (Nat.mod_lt _ (by omega))) (by omega) (by
    rw [List.length_append, List.length_singleton, Dec.dv_take_succ, Dec.dv_take_succ, ← hp, ← hq, Dec.dv_snoc, Nat.pow_succ]
    have h3 : 10 ^ out.length * (p + 10 * (1 - n / 10)) = 10 ^ out.length * (n % 10 + q + c) := by congr 1; omega
    rw [Nat.mul_add, Nat.mul_add, Nat.mul_add, ← Nat.mul_assoc] at h3
    omega)
   rw [List.length_append, List.length_singleton] at this
   exact this
theorem offcutref01_Sub.ev {a b : List Nat} (ha : Dec.Ds a) (hb : Dec.Ds b) (la : a.length < 1000000000) (lb : b.length ≤ a.length) (hba : Dec.dv b ≤ Dec.dv a) : Ev (fun k => offcutref01_Sub.f k (Dec.tx a) (Dec.tx b)) (Dec.dec (Dec.dv a - Dec.dv b)) :=
 offcutref01_Sub.ev_l ha hb la lb hba a.length [] 0 (by rw [List.length_nil]; omega) Dec.Ds.nil (by omega) (by rw [List.length_nil, List.take_zero, List.take_zero]; rfl)
theorem offcutref01_Sub.ev_dec {m n : Nat} (h : n ≤ m) (hl : (Dec.dc m).length < 1000000000) : Ev (fun k => offcutref01_Sub.f k (Dec.dec m) (Dec.dec n)) (Dec.dec (m - n)) := by
 have hlen : (Dec.dc n).length ≤ (Dec.dc m).length := by
  rcases Nat.lt_or_ge (Dec.dc m).length (Dec.dc n).length with h1 | h1
  ·have := Dec.dc_len_lt h1
   omega
  ·exact h1
 have := offcutref01_Sub.ev (Dec.Ds_dc m) (Dec.Ds_dc n) hl hlen (by rw [Dec.dv_dc, Dec.dv_dc]; exact h)
 rw [Dec.dv_dc, Dec.dv_dc] at this
 exact this
set_option synthInstance.checkSynthOrder false in
open Lin in
instance offcutref01_Sub.t {k : Nat} {a0 : ByteArray} {a1 : ByteArray} {r : ByteArray} [h : Ans (offcutref01_Sub.f k a0 a1) r] : Tl Try.prog 58 [.one (.val (.string a0)), .one (.val (.string a1))] (.el (.one (.val (.string r)))) := ⟨Tells.of Try.func58 fun out w vs ho hl hv => by
 obtain ⟨u0, u1, rfl, h0, h1⟩ := args2 hl hv
 obtain rfl := h0.1
 obtain rfl := h1.1
 refine (offcutref01_Sub.calls k a0 a1 _ w h.out).mono ?_
 rintro e w' ⟨rfl, hb⟩
 exact ⟨_, rfl, ⟨rfl, rfl⟩, below_of_drawn hb⟩⟩
mutual
def offcutref01_DivMod.l0 : Nat → ByteArray → ByteArray → ByteArray → ByteArray → Int → Option (ByteArray × ByteArray)
 | 0, _, _, _, _, _ => none
 | k + 1, x0, x1, x6, x7, x8 => if x8 < (x0.size : Int) then (if 0 ≤ x8 then (if x8 ≤ (wrap64 (x8 + 1)) then (if (wrap64 (x8 + 1)) ≤ (x0.size : Int) then (if x7.size + (x0.extract (x8 : Int).toNat ((wrap64 (x8 + 1)) : Int).toNat).size ≤ 9223372036854775807 then ((offcutref01_cut.f k (x7 ++ (x0.extract (x8 : Int).toNat ((wrap64 (x8 + 1)) : Int).toNat))).bind fun t605 => (offcutref01_DivMod.l1 k x0 x1 x6 t605 x8 0)) else (none)) else (none)) else (none)) else (none)) else ((offcutref01_cut.f k x6).bind fun t604 => (some (t604, x7)))
def offcutref01_DivMod.l1 : Nat → ByteArray → ByteArray → ByteArray → ByteArray → Int → Int → Option (ByteArray × ByteArray)
 | 0, _, _, _, _, _, _ => none
 | k + 1, x0, x1, x6, x7, x8, x9 => (offcutref01_Less.f x7 x1).bind fun t606 => (if t606 = true then ((offcutref01_sign.f x9).bind fun t607 => (if x6.size + t607.size ≤ 9223372036854775807 then (offcutref01_DivMod.l0 k x0 x1 (x6 ++ t607) x7 (wrap64 (x8 + 1))) else (none))) else ((offcutref01_Sub.f k x7 x1).bind fun t608 => (offcutref01_DivMod.l1 k x0 x1 x6 t608 x8 (wrap64 (x9 + 1)))))
end
def offcutref01_DivMod.f (k : Nat) (a0 : ByteArray) (a1 : ByteArray) : Option (ByteArray × ByteArray) := offcutref01_DivMod.l0 k a0 a1 (⟨#[]⟩ : ByteArray) (⟨#[48]⟩ : ByteArray) 0
set_option maxHeartbeats 8000000 in
set_option maxRecDepth 100000 in
theorem offcutref01_DivMod.calls (k : Nat) (a0 : ByteArray) (a1 : ByteArray) (r1 : ByteArray) (r2 : ByteArray) (w : World) (h : offcutref01_DivMod.f k a0 a1 = some (r1, r2)) :
  Calls Try.prog 53 #[.string a0, .string a1] w fun e w' => e = .returned (.tuple #[.string r1, .string r2]) ∧ Drawn0 w w' := by
 have H : (offcutref01_DivMod.l0 k a0 a1 (⟨#[]⟩ : ByteArray) (⟨#[48]⟩ : ByteArray) 0) = some (r1, r2) := h
 clear h
 have H' := Aside0.mk H
 clear H
 go_enter Try.func53, Try.ntmps53
 go_wp2
 go_loopg [6, 7, 8] k (fun kq v6 v7 v8 w' => ∃ (x6_1 : ByteArray) (x7_1 : ByteArray) (x8_1 : Int), v6 = .string x6_1 ∧ v7 = .string x7_1 ∧ v8 = .int .i64 x8_1 ∧ Aside0 (offcutref01_DivMod.l0 kq a0 a1 x6_1 x7_1 x8_1 = some (r1, r2)) ∧ Aside0 (kq ≤ k) ∧ Drawn0 w w')
 case atStart => exact ⟨((⟨#[]⟩ : ByteArray)), ((⟨#[48]⟩ : ByteArray)), (0), (by first | rfl | (simp; done) | (simp [*]; done)), (by first | rfl | (simp; done) | (simp [*]; done)), (by first | rfl | (simp; done) | (simp [*]; done)), H', ⟨Nat.le_refl _⟩, by repeat (first | exact Drawn0.refl _ | apply Drawn0.step)⟩
 case round =>
  clear H'
  try clear p2
  obtain ⟨x6_1, x7_1, x8_1, rfl, rfl, rfl, HA, HK1, ⟨m1, rfl⟩⟩ := hrel
  cases gk with
  | zero => exact absurd HA.out (by simp [offcutref01_DivMod.l0])
  | succ k1 =>
   have H := HA.out
   clear HA
   simp only [offcutref01_DivMod.l0] at H
   by_cases c3 : x8_1 < (a0.size : Int)
   ·rw [if_pos c3] at H
    have c3b0 : decide (x8_1 < (a0.size : Int)) = true := decide_eq_true c3
    clear c3
    by_cases c4 : 0 ≤ x8_1
    ·rw [if_pos c4] at H
     have c4b0 := eq_true c4
     have c4b1 : decide (0 ≤ x8_1) = true := decide_eq_true c4
     clear c4
     by_cases c5 : x8_1 ≤ (wrap64 (x8_1 + 1))
     ·rw [if_pos c5] at H
      have c5b0 := eq_true c5
      have c5b1 : decide (x8_1 ≤ (wrap64 (x8_1 + 1))) = true := decide_eq_true c5
      by_cases c6 : (wrap64 (x8_1 + 1)) ≤ (a0.size : Int)
      ·rw [if_pos c6] at H
       have c6b0 := eq_true c6
       have c6b1 : decide ((wrap64 (x8_1 + 1)) ≤ (a0.size : Int)) = true := decide_eq_true c6
       by_cases c7 : x7_1.size + (a0.extract (x8_1 : Int).toNat ((wrap64 (x8_1 + 1)) : Int).toNat).size ≤ 9223372036854775807
       ·rw [if_pos c7] at H
        have c7b0 := eq_true c7
        have c7b1 : decide (x7_1.size + (a0.extract (x8_1 : Int).toNat ((wrap64 (x8_1 + 1)) : Int).toNat).size ≤ 9223372036854775807) = true := decide_eq_true c7
        try have c7b2 : (9223372036854775807 < x7_1.size + (a0.extract (x8_1 : Int).toNat ((wrap64 (x8_1 + 1)) : Int).toNat).size) = False := eq_false (Nat.not_lt.2 c7)
        replace H := Option.bind_eq_some_iff.mp H
        obtain ⟨t605, A80, H⟩ := H
        try dsimp only at H
        have A8 := Aside0.mk A80
        clear A80
        have H' := Aside0.mk H
        clear H
        go_wp2_with (first | ((with_reducible refine gate_callee (f := 81) rfl ?_); refine Short.goesS_ (some 23) Try.func81 #[.string (x7_1 ++ (a0.extract (x8_1 : Int).toNat ((wrap64 (x8_1 + 1)) : Int).toNat))] ?_; (with_reducible refine (offcutref01_cut.calls k1 (x7_1 ++ (a0.extract (x8_1 : Int).toNat ((wrap64 (x8_1 + 1)) : Int).toNat)) t605 _ A8.out).mono ?_); rintro e w' ⟨rfl, ⟨nd, rfl⟩⟩; refine ⟨_, rfl, ?_⟩))
        go_loopg [7, 9] k1 (fun kq v7 v9 w' => ∃ (x7_2 : ByteArray) (x9_2 : Int), v7 = .string x7_2 ∧ v9 = .int .i64 x9_2 ∧ Aside0 (offcutref01_DivMod.l1 kq a0 a1 x6_1 x7_2 x8_1 x9_2 = some (r1, r2)) ∧ Aside0 (kq ≤ k1) ∧ Drawn0 w w')
        case atStart => exact ⟨(t605), (0), (by first | rfl | (simp; done) | (simp [*]; done)), (by first | rfl | (simp; done) | (simp [*]; done)), H', ⟨Nat.le_refl _⟩, by repeat (first | exact Drawn0.refl _ | apply Drawn0.step)⟩
        case round =>
         clear H'
         try clear p2
         try clear c3
         try clear c3b0
         try clear c4
         try clear c4b0
         try clear c4b1
         try clear c5
         try clear c5b0
         try clear c5b1
         try clear c6
         try clear c6b0
         try clear c6b1
         try clear p6
         try clear c7
         try clear c7b0
         try clear c7b1
         try clear c7b2
         try clear c8
         try clear p2
         obtain ⟨x7_2, x9_2, rfl, rfl, HA, HK2, ⟨m2, rfl⟩⟩ := hrel
         cases gk with
         | zero => exact absurd HA.out (by simp [offcutref01_DivMod.l1])
         | succ k2 =>
          have H := HA.out
          clear HA
          simp only [offcutref01_DivMod.l1] at H
          replace H := Option.bind_eq_some_iff.mp H
          obtain ⟨t606, A90, H⟩ := H
          try dsimp only at H
          have A9 := Aside0.mk A90
          clear A90
          by_cases c10 : t606 = true
          ·subst c10
           have H1 : ((offcutref01_sign.f x9_2).bind fun t607 => (if x6_1.size + t607.size ≤ 9223372036854775807 then (offcutref01_DivMod.l0 k2 a0 a1 (x6_1 ++ t607) x7_2 (wrap64 (x8_1 + 1))) else (none))) = some (r1, r2) := by rw [if_pos rfl] at H; exact H
           clear H
           have H := H1
           clear H1
           replace H := Option.bind_eq_some_iff.mp H
           obtain ⟨t607, A110, H⟩ := H
           try dsimp only at H
           have A11 := Aside0.mk A110
           clear A110
           by_cases c12 : x6_1.size + t607.size ≤ 9223372036854775807
           ·rw [if_pos c12] at H
            have c12b0 := eq_true c12
            have c12b1 : decide (x6_1.size + t607.size ≤ 9223372036854775807) = true := decide_eq_true c12
            try have c12b2 : (9223372036854775807 < x6_1.size + t607.size) = False := eq_false (Nat.not_lt.2 c12)
            have H' := Aside0.mk H
            clear H
            go_wp2_with (first | ((with_reducible refine gate_callee (f := 57) rfl ?_); refine Short.goesS_ (some 26) Try.func57 #[.string x7_2, .string a1] ?_; (with_reducible refine (offcutref01_Less.calls x7_2 a1 true _ A9.out).mono ?_); rintro e w' ⟨rfl, ⟨nd, rfl⟩⟩; refine ⟨_, rfl, ?_⟩) | ((with_reducible refine gate_callee (f := 80) rfl ?_); refine Short.goesS_ (some 35) Try.func80 #[.int .i64 x9_2] ?_; (with_reducible refine (offcutref01_sign.calls x9_2 t607 _ A11.out).mono ?_); rintro e w' ⟨rfl, ⟨nd, rfl⟩⟩; refine ⟨_, rfl, ?_⟩))
            go_roundg k2
            case measure => have := HK1.out; have := HK2.out; omega
            case rel => exact ⟨(x6_1 ++ t607), (x7_2), (wrap64 (x8_1 + 1)), (by first | rfl | (simp; done) | (simp [*]; done)), (by first | rfl | (simp; done) | (simp [*]; done)), (by first | rfl | (simp; done) | (simp [*]; done)), H', ⟨by have := HK1.out; have := HK2.out; omega⟩, by repeat (first | exact Drawn0.refl _ | apply Drawn0.step)⟩
           ·rw [if_neg c12] at H
            exact absurd H (by simp)
          ·replace c10 := Bool.eq_false_iff.mpr c10
           subst c10
           have H1 : ((offcutref01_Sub.f k2 x7_2 a1).bind fun t608 => (offcutref01_DivMod.l1 k2 a0 a1 x6_1 t608 x8_1 (wrap64 (x9_2 + 1)))) = some (r1, r2) := by rw [if_neg (show ¬ (false = true) by decide)] at H; exact H
           clear H
           have H := H1
           clear H1
           replace H := Option.bind_eq_some_iff.mp H
           obtain ⟨t608, A130, H⟩ := H
           try dsimp only at H
           have A13 := Aside0.mk A130
           clear A130
           have H' := Aside0.mk H
           clear H
           go_wp2_with (first | ((with_reducible refine gate_callee (f := 57) rfl ?_); refine Short.goesS_ (some 26) Try.func57 #[.string x7_2, .string a1] ?_; (with_reducible refine (offcutref01_Less.calls x7_2 a1 false _ A9.out).mono ?_); rintro e w' ⟨rfl, ⟨nd, rfl⟩⟩; refine ⟨_, rfl, ?_⟩) | ((with_reducible refine gate_callee (f := 58) rfl ?_); refine Short.goesS_ (some 30) Try.func58 #[.string x7_2, .string a1] ?_; (with_reducible refine (offcutref01_Sub.calls k2 x7_2 a1 t608 _ A13.out).mono ?_); rintro e w' ⟨rfl, ⟨nd, rfl⟩⟩; refine ⟨_, rfl, ?_⟩))
           go_roundg k2
           case measure => have := HK1.out; have := HK2.out; omega
           case rel => exact ⟨(t608), (wrap64 (x9_2 + 1)), (by first | rfl | (simp; done) | (simp [*]; done)), (by first | rfl | (simp; done) | (simp [*]; done)), H', ⟨by have := HK1.out; have := HK2.out; omega⟩, by repeat (first | exact Drawn0.refl _ | apply Drawn0.step)⟩
       ·rw [if_neg c7] at H
        exact absurd H (by simp)
      ·rw [if_neg c6] at H
       exact absurd H (by simp)
     ·rw [if_neg c5] at H
      exact absurd H (by simp)
    ·rw [if_neg c4] at H
     exact absurd H (by simp)
   ·rw [if_neg c3] at H
    have c3b0 : decide (x8_1 < (a0.size : Int)) = false := decide_eq_false c3
    clear c3
    replace H := Option.bind_eq_some_iff.mp H
    obtain ⟨t604, A140, H⟩ := H
    replace H : (some (t604, x7_1)) = some (r1, r2) := H
    have A14 := Aside0.mk A140
    clear A140
    simp only [Option.some.injEq, Prod.mk.injEq] at H
    obtain ⟨rfl, rfl⟩ := H
    go_wp2_with (first | ((with_reducible refine gate_callee (f := 81) rfl ?_); refine Short.goesS_ (some 38) Try.func81 #[.string x6_1] ?_; (with_reducible refine (offcutref01_cut.calls k1 x6_1 t604 _ A14.out).mono ?_); rintro e w' ⟨rfl, ⟨nd, rfl⟩⟩; refine ⟨_, rfl, ?_⟩))
    go_ret2
    exact ⟨by first | rfl | (simp; done) | (simp [*]; done), by repeat (first | exact Drawn0.refl _ | apply Drawn0.step)⟩

/-- How often y goes into t: what is left, and the digit; then what follows. -/
theorem offcutref01_DivMod.ev_1 {x0 : ByteArray} {y : Nat} (hy : y ≠ 0) {qs : List Nat} (lq : qs.length < 1000000000) {i : Nat} (li : i < 1000000000) {r : ByteArray × ByteArray} {R n0 : Nat} (hR : R < y) (hn0 : n0 < 10)
  (next : Ev (fun k => offcutref01_DivMod.l0 k x0 (Dec.dec y) (Dec.tx (n0 :: qs)) (Dec.dec R) ((i + 1 : Nat) : Int)) r) (d : Nat) : ∀ (n : Nat), n + d = n0 → (Dec.dc (R + y * d)).length < 1000000000 →
  Ev (fun k => offcutref01_DivMod.l1 k x0 (Dec.dec y) (Dec.tx qs) (Dec.dec (R + y * d)) (i : Int) (n : Int)) r := by
 induction d with
 | zero =>
  intro n hn hl
  obtain rfl : n = n0 := by omega
  refine Ev.step (f := fun k => offcutref01_DivMod.l0 k x0 (Dec.dec y) (Dec.tx (n :: qs)) (Dec.dec R) ((i + 1 : Nat) : Int)) (fun k => ?_) next
  rw [offcutref01_DivMod.l1, offcutref01_Less.sem, Option.bind_some, Nat.mul_zero, Nat.add_zero, decide_eq_true hR, if_pos rfl, offcutref01_sign.sem _ hn0, Option.bind_some, Dec.tx_append, Dec.tx_size, Dec.tx_size, if_pos (by rw [List.length_singleton]; omega), Dec.w64s _ (by omega)]
  rfl
 | succ d ih =>
  intro n hn hl
  have hle : y ≤ R + y * (d + 1) := by rw [Nat.mul_succ]; omega
  have hs := offcutref01_Sub.ev_dec hle hl
  have e : R + y * (d + 1) - y = R + y * d := by rw [Nat.mul_succ]; omega
  rw [e] at hs
  have hl2 : (Dec.dc (R + y * d)).length < 1000000000 := by
   rcases Nat.lt_or_ge (Dec.dc (R + y * (d + 1))).length (Dec.dc (R + y * d)).length with h1 | h1
   ·have := Dec.dc_len_lt h1
    rw [Nat.mul_succ] at this
    omega
   ·omega
  refine Ev.step (f := fun k => (offcutref01_Sub.f k (Dec.dec (R + y * (d + 1))) (Dec.dec y)).bind fun t268 => (offcutref01_DivMod.l1 k x0 (Dec.dec y) (Dec.tx qs) t268 (i : Int) ((n + 1 : Nat) : Int))) (fun k => ?_) (Ev.bind hs (ih (n + 1) (by omega) hl2))
  rw [offcutref01_DivMod.l1, offcutref01_Less.sem, Option.bind_some, decide_eq_false (by omega), if_neg (by decide), Dec.w64s _ (by omega)]
theorem offcutref01_DivMod.ev_0 {a : List Nat} (ha : Dec.Ds a) (la : a.length < 100000000) {y : Nat} (hy : y ≠ 0) (ly : (Dec.dc y).length < 100000000) (d : Nat) : ∀ (qs : List Nat), qs.length + d = a.length → Dec.Ds qs → Dec.dv qs = Dec.dv (a.drop d) / y →
  Ev (fun k => offcutref01_DivMod.l0 k (Dec.tx a) (Dec.dec y) (Dec.tx qs) (Dec.dec (Dec.dv (a.drop d) % y)) (qs.length : Int)) (Dec.dec (Dec.dv a / y), Dec.dec (Dec.dv a % y)) := by
 induction d with
 | zero =>
  intro qs hl hq hv
  rw [List.drop_zero] at hv ⊢
  refine Ev.step (f := fun k => (offcutref01_cut.f k (Dec.tx qs)).bind fun t264 => (some (t264, Dec.dec (Dec.dv a % y)))) (fun k => ?_) ?_
  ·rw [offcutref01_DivMod.l0, Dec.tx_size, if_neg (by omega)]
  ·rw [← hv]
   exact Ev.bind (offcutref01_cut.ev hq) (Ev.now _)
 | succ d ih =>
  intro qs hl hq hv
  have hg := ha.getD d
  obtain ⟨g, hgd⟩ : ∃ g, g = a.getD d 0 := ⟨_, rfl⟩
  rw [← hgd] at hg
  obtain ⟨P, hP⟩ : ∃ P, P = Dec.dv (a.drop (d + 1)) := ⟨_, rfl⟩
  have hdrop : Dec.dv (a.drop d) = g + 10 * P := by
   rw [List.drop_eq_getElem_cons (by omega), Dec.dv, hP]
   have : a[d] = g := by rw [hgd, List.getD_eq_getElem?_getD, List.getElem?_eq_getElem (by omega)]; rfl
   rw [this]
  rw [← hP] at hv ⊢
  have hr := Nat.mod_lt P (Nat.pos_of_ne_zero hy)
  have hPe := Nat.div_add_mod P y
  obtain ⟨t, ht⟩ : ∃ t, t = g + 10 * (P % y) := ⟨_, rfl⟩
  have htot : Dec.dv (a.drop d) = t + y * (10 * (P / y)) := by
   rw [hdrop, ht]
   have h1 : y * (10 * (P / y)) = 10 * (y * (P / y)) := Nat.mul_left_comm _ _ _
   omega
  have hq1 : Dec.dv (a.drop d) / y = t / y + 10 * (P / y) := by rw [htot, Nat.add_mul_div_left _ _ (Nat.pos_of_ne_zero hy)]
  have hm1 : Dec.dv (a.drop d) % y = t % y := by rw [htot, Nat.add_mul_mod_self_left]
  have htl : t < 10 * y := by omega
  have hn : t / y < 10 := Nat.div_lt_of_lt_mul (by rw [Nat.mul_comm]; exact htl)
  have hte : t % y + y * (t / y) = t := Nat.mod_add_div t y
  have ht2 : (Dec.dc t).length ≤ (Dec.dc y).length + 1 := by
   have h1 := Dec.dv_lt (Dec.Ds_dc y)
   rw [Dec.dv_dc] at h1
   refine Dec.dc_length_le (by omega) ?_
   rw [Nat.pow_succ]
   omega
  have hrl : (Dec.dc (P % y)).length ≤ (Dec.dc y).length := by
   rcases Nat.lt_or_ge (Dec.dc y).length (Dec.dc (P % y)).length with h1 | h1
   ·have := Dec.dc_len_lt h1
    omega
   ·exact h1
  have hcut := offcutref01_cut.ev ((Dec.Ds_dc (P % y)).cons hg)
  rw [Dec.dv, Dec.dv_dc, ← ht] at hcut
  have hex : (Dec.tx a).extract qs.length (qs.length + 1) = Dec.tx [g] := by
   rw [Dec.tx_extract]
   unfold Dec.tx
   congr 2
   rw [show qs.length + 1 - qs.length = 1 from by omega, List.take_one, List.head?_drop, List.getElem?_map, List.getElem?_reverse (by omega), show a.length - 1 - qs.length = d from by omega, List.getElem?_eq_getElem (by omega), hgd, List.getD_eq_getElem?_getD, List.getElem?_eq_getElem (by omega)]
   rfl
  refine Ev.step (f := fun k => (offcutref01_cut.f k (Dec.tx (g :: Dec.dc (P % y)))).bind fun t265 => (offcutref01_DivMod.l1 k (Dec.tx a) (Dec.dec y) (Dec.tx qs) t265 (qs.length : Int) ((0 : Nat) : Int))) (fun k => ?_) (Ev.bind hcut ?_)
  ·rw [offcutref01_DivMod.l0, Dec.w64s _ (by omega), Int.toNat_natCast, Int.toNat_natCast, hex, Dec.tx_size, if_pos (by omega), if_pos (by omega), if_pos (by omega), if_pos (by omega), if_pos (by unfold Dec.dec; rw [Dec.tx_size, Dec.tx_size, List.length_singleton]; omega)]
   show (offcutref01_cut.f k (Dec.tx (Dec.dc (P % y)) ++ Dec.tx [g])).bind _ = _
   rw [Dec.tx_append]
   rfl
  ·have hnext := ih (t / y :: qs) (by rw [List.length_cons]; omega) (hq.cons hn) (by rw [Dec.dv, hv, hq1])
   rw [hm1, List.length_cons] at hnext
   have := offcutref01_DivMod.ev_1 (x0 := Dec.tx a) hy (qs := qs) (by omega) (i := qs.length) (by omega) (Nat.mod_lt t (Nat.pos_of_ne_zero hy)) hn hnext (t / y) 0 (by omega) (by rw [hte]; omega)
   rw [hte] at this
   exact this
theorem offcutref01_DivMod.ev {x y : Nat} (lx : (Dec.dc x).length < 100000000) (hy : y ≠ 0) (ly : (Dec.dc y).length < 100000000) : Ev (fun k => offcutref01_DivMod.f k (Dec.dec x) (Dec.dec y)) (Dec.dec (x / y), Dec.dec (x % y)) := by
 have := offcutref01_DivMod.ev_0 (Dec.Ds_dc x) lx hy ly (Dec.dc x).length [] (by rw [List.length_nil]; omega) Dec.Ds.nil (by rw [List.drop_length]; exact (Nat.zero_div y).symm)
 rw [List.drop_length, Dec.dv_dc, Dec.dv, Nat.zero_mod, Dec.dec_zero] at this
 exact this
set_option synthInstance.checkSynthOrder false in
open Lin in
instance offcutref01_DivMod.t {k : Nat} {a0 : ByteArray} {a1 : ByteArray} {r : ByteArray × ByteArray} [h : Ans (offcutref01_DivMod.f k a0 a1) r] : Tl Try.prog 53 [.one (.val (.string a0)), .one (.val (.string a1))] (.tup [.one (.val (.string r.1)), .one (.val (.string r.2))]) := ⟨Tells.of Try.func53 fun out w vs ho hl hv => by
 obtain ⟨u0, u1, rfl, h0, h1⟩ := args2 hl hv
 obtain rfl := h0.1
 obtain rfl := h1.1
 refine (offcutref01_DivMod.calls k a0 a1 _ _ w h.out).mono ?_
 rintro e w' ⟨rfl, hb⟩
 exact ⟨_, rfl, tup2 (⟨rfl, rfl⟩) (⟨rfl, rfl⟩), below_of_drawn hb⟩⟩
def offcutref01_Gcd.l0 : Nat → ByteArray → ByteArray → Option (ByteArray)
 | 0, _, _ => none
 | k + 1, x0, x1 => if x1.toList = ([48] : List UInt8) then (some x0) else ((offcutref01_DivMod.f k x0 x1).bind fun bt609 => (offcutref01_Gcd.l0 k x1 bt609.2))
def offcutref01_Gcd.f (k : Nat) (a0 : ByteArray) (a1 : ByteArray) : Option (ByteArray) := offcutref01_Gcd.l0 k a0 a1
set_option maxHeartbeats 8000000 in
set_option maxRecDepth 100000 in
theorem offcutref01_Gcd.calls (k : Nat) (a0 : ByteArray) (a1 : ByteArray) (r : ByteArray) (w : World) (h : offcutref01_Gcd.f k a0 a1 = some r) :
  Calls Try.prog 63 #[.string a0, .string a1] w fun e w' => e = .returned (.string r) ∧ Drawn0 w w' := by
 have H : (offcutref01_Gcd.l0 k a0 a1) = some r := h
 clear h
 have H' := Aside0.mk H
 clear H
 go_enter Try.func63, Try.ntmps63
 go_wp2
 go_loopg [0, 1] k (fun kq v0 v1 w' => ∃ (x0_1 : ByteArray) (x1_1 : ByteArray), v0 = .string x0_1 ∧ v1 = .string x1_1 ∧ Aside0 (offcutref01_Gcd.l0 kq x0_1 x1_1 = some r) ∧ Aside0 (kq ≤ k) ∧ Drawn0 w w')
 case atStart => exact ⟨(a0), (a1), (by first | rfl | (simp; done) | (simp [*]; done)), (by first | rfl | (simp; done) | (simp [*]; done)), H', ⟨Nat.le_refl _⟩, by repeat (first | exact Drawn0.refl _ | apply Drawn0.step)⟩
 case round =>
  clear H'
  try clear p2
  obtain ⟨x0_1, x1_1, rfl, rfl, HA, HK1, ⟨m1, rfl⟩⟩ := hrel
  cases gk with
  | zero => exact absurd HA.out (by simp [offcutref01_Gcd.l0])
  | succ k1 =>
   have H := HA.out
   clear HA
   simp only [offcutref01_Gcd.l0] at H
   by_cases c3 : x1_1.toList = ([48] : List UInt8)
   ·rw [if_pos c3] at H
    have c3b0 : (x1_1.toList == ([48] : List UInt8)) = true := beq_iff_eq.mpr c3
    have c3b1 : (x1_1.toList != ([48] : List UInt8)) = false := bne_eq_false_iff_eq.mpr c3
    clear c3
    obtain rfl := Option.some.inj H
    go_wp2
    go_ret
    exact ⟨by first | rfl | (simp; done) | (simp [*]; done), by repeat (first | exact Drawn0.refl _ | apply Drawn0.step)⟩
   ·rw [if_neg c3] at H
    have c3b0 : (x1_1.toList == ([48] : List UInt8)) = false := beq_eq_false_iff_ne.mpr c3
    have c3b1 : (x1_1.toList != ([48] : List UInt8)) = true := bne_iff_ne.mpr c3
    replace H := Option.bind_eq_some_iff.mp H
    obtain ⟨⟨t609, t610⟩, A40, H⟩ := H
    replace H : (offcutref01_Gcd.l0 k1 x1_1 t610) = some r := H
    have A4 := Aside0.mk A40
    clear A40
    have H' := Aside0.mk H
    clear H
    go_wp2_with (first | ((with_reducible refine gate_callee (f := 53) rfl ?_); refine Short.goesS_ (some 12) Try.func53 #[.string x0_1, .string x1_1] ?_; (with_reducible refine (offcutref01_DivMod.calls k1 x0_1 x1_1 t609 t610 _ A4.out).mono ?_); rintro e w' ⟨rfl, ⟨nd, rfl⟩⟩; refine ⟨_, rfl, ?_⟩))
    go_roundg k1
    case measure => have := HK1.out; omega
    case rel => exact ⟨(x1_1), (t610), (by first | rfl | (simp; done) | (simp [*]; done)), (by first | rfl | (simp; done) | (simp [*]; done)), H', ⟨by have := HK1.out; omega⟩, by repeat (first | exact Drawn0.refl _ | apply Drawn0.step)⟩

theorem offcutref01_Gcd.ev {K : Nat} (hK : K < 1000000) (hK1 : 1 ≤ K) (b : Nat) : ∀ a : Nat, a < 2 ^ (32 * K) → b < 2 ^ (32 * K) → Ev (fun k => offcutref01_Gcd.f k (Dec.dec a) (Dec.dec b)) (Dec.dec (Nat.gcd a b)) := by
 induction b using Nat.strongRecOn with
 | ind b ih =>
  intro a ha hb
  by_cases h0 : b = 0
  ·subst h0
   rw [Nat.gcd_zero_right]
   refine Ev.step (f := fun _ => some (Dec.dec a)) (fun k => ?_) (Ev.now _)
   show offcutref01_Gcd.l0 (k + 1) _ _ = _
   rw [offcutref01_Gcd.l0, if_pos ((Dec.dec_is0 0).2 rfl)]
  ·have la := Dec.dc_len32 hK1 ha
   have lb := Dec.dc_len32 hK1 hb
   have hm := Nat.mod_lt a (Nat.pos_of_ne_zero h0)
   refine Ev.step (f := fun k => (offcutref01_DivMod.f k (Dec.dec a) (Dec.dec b)).bind fun bt300 => (offcutref01_Gcd.l0 k (Dec.dec b) bt300.2)) (fun k => ?_) (Ev.bind (offcutref01_DivMod.ev (by omega) h0 (by omega)) ?_)
   ·show offcutref01_Gcd.l0 (k + 1) _ _ = _
    rw [offcutref01_Gcd.l0, if_neg (fun e => h0 ((Dec.dec_is0 b).1 e))]
   ·have := ih (a % b) hm b hb (Nat.lt_trans hm hb)
    rw [Nat.gcd_comm b (a % b), ← Nat.gcd_rec, Nat.gcd_comm b a] at this
    exact this
set_option synthInstance.checkSynthOrder false in
open Lin in
instance offcutref01_Gcd.t {k : Nat} {a0 : ByteArray} {a1 : ByteArray} {r : ByteArray} [h : Ans (offcutref01_Gcd.f k a0 a1) r] : Tl Try.prog 63 [.one (.val (.string a0)), .one (.val (.string a1))] (.el (.one (.val (.string r)))) := ⟨Tells.of Try.func63 fun out w vs ho hl hv => by
 obtain ⟨u0, u1, rfl, h0, h1⟩ := args2 hl hv
 obtain rfl := h0.1
 obtain rfl := h1.1
 refine (offcutref01_Gcd.calls k a0 a1 _ w h.out).mono ?_
 rintro e w' ⟨rfl, hb⟩
 exact ⟨_, rfl, ⟨rfl, rfl⟩, below_of_drawn hb⟩⟩
def offcutref03_Low.j0 : Nat → ByteArray → ByteArray → ByteArray → Option (ByteArray × ByteArray)
 | 0, _, _, _ => none
 | k + 1, x0, x1, x5 => (offcutref01_Gcd.f k x5 x1).bind fun t613 => ((offcutref01_DivMod.f k x5 t613).bind fun bt614 => ((offcutref01_DivMod.f k x1 t613).bind fun bt616 => ((offcutref02_Below.f x0).bind fun t618 => ((offcutref02_Made.f t618 bt614.1).bind fun t619 => (some (t619, bt616.1))))))
def offcutref03_Low.f (k : Nat) (a0 : ByteArray) (a1 : ByteArray) : Option (ByteArray × ByteArray) := (offcutref02_Below.f a0).bind fun t612 => (if t612 = true then (if 1 ≤ (a0.size : Int) then (offcutref03_Low.j0 k a0 a1 (a0.extract 1 a0.size)) else (none)) else (offcutref03_Low.j0 k a0 a1 a0))
theorem offcutref03_Low.ev {p : Int} {q K : Nat} (hp : p.natAbs < 2 ^ (32 * K)) (hq : q < 2 ^ (32 * K)) (q0 : q ≠ 0) (hK1 : 1 ≤ K) (hK : K < 400000) : Ev (fun k => offcutref03_Low.f k (Zn.tz p) (Dec.dec q)) (Zn.tz (mkRat p q).num, Dec.dec (mkRat p q).den) := by
 obtain ⟨g, hg⟩ : ∃ g, g = Nat.gcd p.natAbs q := ⟨_, rfl⟩
 have G := offcutref01_Gcd.ev (K := K) (by omega) hK1 q p.natAbs hp hq
 rw [← hg] at G
 have g0 : g ≠ 0 := by
  have := Nat.gcd_pos_of_pos_right p.natAbs (Nat.pos_of_ne_zero q0)
  omega
 have bg : g < 2 ^ (32 * K) := Nat.lt_of_le_of_lt (Nat.le_of_dvd (Nat.pos_of_ne_zero q0) (by rw [hg]; exact Nat.gcd_dvd_right _ _)) hq
 have lp := Dec.dc_len32 hK1 hp
 have lq := Dec.dc_len32 hK1 hq
 have lg := Dec.dc_len32 hK1 bg
 have D1 := offcutref01_DivMod.ev (x := p.natAbs) (y := g) (by omega) g0 (by omega)
 have D2 := offcutref01_DivMod.ev (x := q) (y := g) (by omega) g0 (by omega)
 have ld := Dec.dc_len32 hK1 (Nat.lt_of_le_of_lt (Nat.div_le_self p.natAbs g) hp)
 have Md := offcutref02_Made.sem (decide (p < 0)) (p.natAbs / g) (by omega)
 have e1 := Qn.num_eq (decide (p < 0)) p.natAbs q q0
 have e2 := Qn.den_eq (decide (p < 0)) p.natAbs q q0
 rw [← hg, Zn.zv_self] at e1 e2
 rw [← e1] at Md
 rw [← e2] at D2
 have J : Ev (fun k => offcutref03_Low.j0 k (Zn.tz p) (Dec.dec q) (Dec.dec p.natAbs)) (Zn.tz (mkRat p q).num, Dec.dec (mkRat p q).den) := by
  refine Ev.step (f := fun k => (offcutref01_Gcd.f k (Dec.dec p.natAbs) (Dec.dec q)).bind fun t613 => (offcutref01_DivMod.f k (Dec.dec p.natAbs) t613).bind fun bt614 => (offcutref01_DivMod.f k (Dec.dec q) t613).bind fun bt616 => (offcutref02_Below.f (Zn.tz p)).bind fun t618 => (offcutref02_Made.f t618 bt614.1).bind fun t619 => some (t619, bt616.1)) (fun k => by rw [offcutref03_Low.j0]) ?_
  exact Ev.bind G (Ev.bind D1 (Ev.bind D2 (Dec.val (fun _ => offcutref02_Below.sem p) (Dec.val (fun _ => Md) (Ev.now _)))))
 unfold offcutref03_Low.f
 refine Dec.val (fun _ => offcutref02_Below.sem p) ?_
 by_cases h : p < 0
 ·have e : (Zn.tz p).extract 1 (Zn.tz p).size = Dec.dec p.natAbs := by rw [Zn.tz_neg h, Zn.minus_tail]
  have hs := Zn.tz_size_pos p
  rw [← e] at J
  exact Dec.yes (decide_eq_true h) (Dec.yes (by omega) J)
 ·have e : Zn.tz p = Dec.dec p.natAbs := Zn.tz_pos h
  rw [← e] at J
  exact Dec.no (by rw [decide_eq_false h]; decide) J
set_option synthInstance.checkSynthOrder false in
open Lin in
set_option maxHeartbeats 4000000 in
instance offcutref03_Low.t {k : Nat} {a0 : ByteArray} {a1 : ByteArray} {r : ByteArray × ByteArray} [h : Ans (offcutref03_Low.f k a0 a1) r] : Tl Try.prog 27 [.one (.val (.string a0)), .one (.val (.string a1))] (.el (.agg [.val (.string r.1), .val (.string r.2)])) := by
 have h := h.out
 unfold offcutref03_Low.f at h
 repeat' (first | (replace h := Lin.bndK h) | (replace h := Lin.bnd h; obtain ⟨_, _, h⟩ := h) | split at h | unfold offcutref03_Low.j0 at h | cases h)
 all_goals exact ⟨Tells.go Try.func27 Try.ntmps27⟩
end Go.Proofs.Ytcdkopidgibijaa.PR
