/- Several functions' texts in one file. -/
import Derived.Test.YtcdkopidgibijaaTy
import Derived.Test.YtcdkopidgibijaaShort
import Derived.Test.YtcdkopidgibijaaDec
import Derived.Test.YtcdkopidgibijaaPRg0
import Derived.Test.YtcdkopidgibijaaPRg1
import Derived.Test.YtcdkopidgibijaaNum
import Derived.Test.YtcdkopidgibijaaRat
import Derived.Test.YtcdkopidgibijaaLoop
import Derived.Test.YtcdkopidgibijaaGoc
namespace Go.Proofs.Ytcdkopidgibijaa.PR
open Go.RowKit Go.Proofs.YtcdkopidgibijaaW.PrintWords Go.Proofs.YtcdkopidgibijaaW.PrintLast Go.Proofs.YtcdkopidgibijaaW.PrintMore
attribute [local go_sem] max2_int min2_int max_two min_two max_three min_three max_four min_four   -- for this text's walks alone
set_option linter.unusedVariables false
set_option linter.unusedSimpArgs false
mutual
def offcutref01_Mul.l0 : Nat → ByteArray → ByteArray → List Int → Int → Option (ByteArray)
 | 0, _, _, _, _ => none
 | k + 1, x0, x1, x5, x6 => if x6 < (x0.size : Int) then (offcutref01_Mul.l1 k x0 x1 x5 x6 0) else (offcutref01_Mul.l2 k x5 (⟨#[]⟩ : ByteArray) 0 0)
def offcutref01_Mul.l1 : Nat → ByteArray → ByteArray → List Int → Int → Int → Option (ByteArray)
 | 0, _, _, _, _, _ => none
 | k + 1, x0, x1, x5, x6, x7 => if x7 < (x1.size : Int) then (if 0 ≤ (wrap64 (x6 + x7)) then (if (wrap64 (x6 + x7)) < (x5.length : Int) then ((offcutref01_at.f x0 x6).bind fun t624 => ((offcutref01_at.f x1 x7).bind fun t625 => (offcutref01_Mul.l1 k x0 x1 (x5.set ((wrap64 (x6 + x7)) : Int).toNat (wrap64 ((rd x5 (wrap64 (x6 + x7))) + (wrap64 (t624 * t625))))) x6 (wrap64 (x7 + 1))))) else (none)) else (none)) else (offcutref01_Mul.l0 k x0 x1 x5 (wrap64 (x6 + 1)))
def offcutref01_Mul.l2 : Nat → List Int → ByteArray → Int → Int → Option (ByteArray)
 | 0, _, _, _, _ => none
 | k + 1, x5, x8, x9, x10 => if x10 < (x5.length : Int) then (if 0 ≤ x10 then ((offcutref01_sign.f (Int.tmod (wrap64 ((rd x5 x10) + x9)) 10)).bind fun t628 => (if t628.size + x8.size ≤ 9223372036854775807 then (offcutref01_Mul.l2 k x5 (t628 ++ x8) (wrap64 (Int.tdiv (wrap64 ((rd x5 x10) + x9)) 10)) (wrap64 (x10 + 1))) else (none))) else (none)) else ((offcutref01_cut.f k x8).bind fun t629 => (some t629))
end
def offcutref01_Mul.f (k : Nat) (a0 : ByteArray) (a1 : ByteArray) : Option (ByteArray) := if 0 ≤ (wrap64 ((wrap64 ((a0.size : Int) + (a1.size : Int))) + 1)) then (if (wrap64 ((wrap64 ((a0.size : Int) + (a1.size : Int))) + 1) : Int).toNat ≤ 35184372088832 then (offcutref01_Mul.l0 k a0 a1 (List.replicate (wrap64 ((wrap64 ((a0.size : Int) + (a1.size : Int))) + 1) : Int).toNat 0) 0) else (none)) else (none)
def offcutref01_Mul.T8 : Bool × List (List Nat × List Nat) := (true, [([], []), ([], []), ([], []), ([1, 2], [1, 2]), ([], []), ([], []), ([], []), ([5, 6], [5, 6]), ([4, 7], [4, 7]), ([8], [8]), ([], []), ([], []), ([10, 11], [10, 11]), ([], []), ([], []), ([13, 14, 12], [13, 14]), ([12, 15], [12, 15]), ([9, 16], [9, 16]), ([0, 3, 0, 1, 2, 3, 4, 5, 6, 7, 8, 9, 10, 11, 12, 13, 14, 15, 16, 17], [0, 3]), ([18, 17, 15, 0, 1, 2, 3, 4, 5, 6, 7, 8, 9, 10, 11, 12, 13, 14, 15, 16, 17], [17, 18])])
def offcutref01_Mul.B8 : List Nat := [0, 0, 0, 6, 0, 0, 0, 96, 240, 496, 0, 0, 3072, 0, 0, 31744, 64512, 131056, 262143, 524287]
theorem offcutref01_Mul.tab8 : rtab .any (opsOf Try.f51 8) = offcutref01_Mul.T8 := by kernel_rfl
theorem offcutref01_Mul.bits8 : waitsOk offcutref01_Mul.T8.2 offcutref01_Mul.B8 = true := by kernel_rfl
set_option maxHeartbeats 8000000 in
set_option maxRecDepth 100000 in
theorem offcutref01_Mul.calls (k : Nat) (a0 : ByteArray) (a1 : ByteArray) (r : ByteArray) (w : World) (h : offcutref01_Mul.f k a0 a1 = some r) :
  Calls Try.prog 51 #[.string a0, .string a1] w fun e w' => e = .returned (.string r) ∧ Below w.heap.size w w' := by
 have HB := Aside0.mk (Below.refl w.heap.size w)
 have H : (if 0 ≤ (wrap64 ((wrap64 ((a0.size : Int) + (a1.size : Int))) + 1)) then (if (wrap64 ((wrap64 ((a0.size : Int) + (a1.size : Int))) + 1) : Int).toNat ≤ 35184372088832 then (offcutref01_Mul.l0 k a0 a1 (List.replicate (wrap64 ((wrap64 ((a0.size : Int) + (a1.size : Int))) + 1) : Int).toNat 0) 0) else (none)) else (none)) = some r := h
 clear h
 obtain ⟨ji3, hji3⟩ : ∃ j_ : Int, (wrap64 ((wrap64 ((a0.size : Int) + (a1.size : Int))) + 1)) = j_ := ⟨_, rfl⟩
 replace H : (if 0 ≤ (ji3) then (if (ji3 : Int).toNat ≤ 35184372088832 then (offcutref01_Mul.l0 k a0 a1 (List.replicate (ji3 : Int).toNat 0) 0) else (none)) else (none)) = some r := by first | (rw [hji3] at H; exact H) | (simp only [hji3] at H ⊢; exact H)
 have hji3w : (IntKind.i64.wrap ((wrap64 ((a0.size : Int) + (a1.size : Int))) + 1)) = ji3 := (i64_w _).trans hji3
 by_cases c4 : 0 ≤ (ji3)
 ·rw [if_pos c4] at H
  have c4b0 := eq_true c4
  have c4b1 : decide (0 ≤ (ji3)) = true := decide_eq_true c4
  clear c4
  by_cases c5 : (ji3 : Int).toNat ≤ 35184372088832
  ·rw [if_pos c5] at H
   have c5b0 := eq_true c5
   have c5b1 : decide ((ji3 : Int).toNat ≤ 35184372088832) = true := decide_eq_true c5
   clear c5
   obtain ⟨y620, hy620⟩ : ∃ y_ : List Int, y_ = (List.replicate (ji3 : Int).toNat 0) := ⟨_, rfl⟩
   replace H : (offcutref01_Mul.l0 k a0 a1 y620 0) = some r := by first | (rw [hy620]; with_reducible exact H) | (have H2_ := (Option.bind_some _ _).symm.trans H; rw [hy620]; with_reducible exact H2_) | (have H2_ := (Option.bind_some _ _).symm.trans H; with_reducible exact H2_) | with_reducible exact H | (rw [hy620]; exact H) | exact H
   have Ny620 := Aside0.mk hy620
   clear hy620
   have H' := Aside0.mk H
   clear H
   go_enter Try.func51, Try.ntmps51
   go_wp2_with (first | ((with_reducible refine gate_dst (N := 18) rfl ?_); refine Kd.R_make (Kd.int .i64) _ 3 rfl (N := 18) rfl 101 _ _ rfl ji3 rfl rfl Try.underlying101 (.int .i64 0) 8 info3 rfl (by decide) (by omega) 0 (ok := fun _ => True) (okp := fun _ => True) rfl (fun _ hk => hk) trivial (of_decide_eq_true (by first | (with_reducible assumption) | assumption)) (Nat.le_trans (Nat.mul_le_mul_right _ (of_decide_eq_true (by first | (with_reducible assumption) | assumption) : ji3.toNat ≤ 35184372088832)) (by omega)) (Below.refl _ _) (Nat.le_refl _) ?_; intro v621 w6 ho7 hb hg_ hnew_; clear hg_ hnew_; (first | rw [← Ny620.out] at ho7 | (simp only [Int.reduceToNat] at ho7; rw [← Ny620.out] at ho7)); have HO622 := Aside0.mk (Kd.R_lower ho7 (below_size (by repeat (first | (with_reducible first | exact HB.out | apply below_alloc | apply pw_below_drewN | apply below_drew1) | exact HB.out)))); replace HB := Aside0.mk (below_step (by repeat (first | (with_reducible first | exact HB.out | apply below_alloc | apply pw_below_drewN | apply below_drew1) | exact HB.out)) hb); clear hb ho7))
   go_loopg [6] k (fun kq v6 w' => ∃ (x5_1 : List Int) (x6_1 : Int), v6 = .int .i64 x6_1 ∧ Aside0 (offcutref01_Mul.l0 kq a0 a1 x5_1 x6_1 = some r) ∧ Aside0 (kq ≤ k) ∧ Aside0 (Kd.R (Kd.int .i64) 3 w' w.heap.size (fun _ => True) v621 x5_1) ∧ Aside0 (Below w.heap.size w w'))
   case atStart => exact ⟨(y620), (0), (by first | rfl | (simp; done) | (simp [*]; done)), H', ⟨Nat.le_refl _⟩, ⟨by (with_reducible repeat (first | apply Kd.R_alloc | apply Kd.R_drewN | apply Kd.R_drew)); exact HO622.out⟩, ⟨by repeat (first | (with_reducible first | exact HB.out | apply below_alloc | apply pw_below_drewN | apply below_drew1) | exact HB.out)⟩⟩
   case round =>
    clear H'
    try clear p2
    try clear c4
    try clear c4b0
    try clear c4b1
    try clear c5
    try clear c5b0
    try clear c5b1
    try clear p6
    obtain ⟨x5_1, x6_1, rfl, HA, HK1, HO_5, HB⟩ := hrel
    cases gk with
    | zero => exact absurd HA.out (by simp [offcutref01_Mul.l0])
    | succ k1 =>
     have H := HA.out
     clear HA
     simp only [offcutref01_Mul.l0] at H
     by_cases c8 : x6_1 < (a0.size : Int)
     ·rw [if_pos c8] at H
      have c8b0 : decide (x6_1 < (a0.size : Int)) = true := decide_eq_true c8
      clear c8
      have H' := Aside0.mk H
      clear H
      go_wp2
      go_loopg [7] k1 (fun kq v7 w' => ∃ (x5_2 : List Int) (x7_2 : Int), v7 = .int .i64 x7_2 ∧ Aside0 (offcutref01_Mul.l1 kq a0 a1 x5_2 x6_1 x7_2 = some r) ∧ Aside0 (kq ≤ k1) ∧ Aside0 (Kd.R (Kd.int .i64) 3 w' w.heap.size (fun _ => True) v621 x5_2) ∧ Aside0 (Below w.heap.size w w'))
      case atStart => exact ⟨(x5_1), (0), (by first | rfl | (simp; done) | (simp [*]; done)), H', ⟨Nat.le_refl _⟩, ⟨by (with_reducible repeat (first | apply Kd.R_alloc | apply Kd.R_drewN | apply Kd.R_drew)); exact HO_5.out⟩, ⟨by repeat (first | (with_reducible first | exact HB.out | apply below_alloc | apply pw_below_drewN | apply below_drew1) | exact HB.out)⟩⟩
      case round =>
       clear H'
       try clear p2
       try clear c4
       try clear c4b0
       try clear c4b1
       try clear c5
       try clear c5b0
       try clear c5b1
       try clear p6
       try clear c8
       try clear c8b0
       try clear p2
       try clear p6
       obtain ⟨x5_2, x7_2, rfl, HA, HK2, HO_5, HB⟩ := hrel
       cases gk with
       | zero => exact absurd HA.out (by simp [offcutref01_Mul.l1])
       | succ k2 =>
        have H := HA.out
        clear HA
        simp only [offcutref01_Mul.l1] at H
        by_cases c9 : x7_2 < (a1.size : Int)
        ·rw [if_pos c9] at H
         have c9b0 : decide (x7_2 < (a1.size : Int)) = true := decide_eq_true c9
         clear c9
         obtain ⟨ji10, hji10⟩ : ∃ j_ : Int, (wrap64 (x6_1 + x7_2)) = j_ := ⟨_, rfl⟩
         replace H : (if 0 ≤ (ji10) then (if (ji10) < (x5_2.length : Int) then ((offcutref01_at.f a0 x6_1).bind fun t624 => ((offcutref01_at.f a1 x7_2).bind fun t625 => (offcutref01_Mul.l1 k2 a0 a1 (x5_2.set ((ji10) : Int).toNat (wrap64 ((rd x5_2 (ji10)) + (wrap64 (t624 * t625))))) x6_1 (wrap64 (x7_2 + 1))))) else (none)) else (none)) = some r := by first | (rw [hji10] at H; exact H) | (simp only [hji10] at H ⊢; exact H)
         have hji10w : (IntKind.i64.wrap (x6_1 + x7_2)) = ji10 := (i64_w _).trans hji10
         by_cases c11 : 0 ≤ (ji10)
         ·rw [if_pos c11] at H
          have c11b0 : decide (0 ≤ (ji10)) = true := decide_eq_true c11
          clear c11
          by_cases c12 : (ji10) < (x5_2.length : Int)
          ·rw [if_pos c12] at H
           have c12b0 : decide ((ji10) < (x5_2.length : Int)) = true := decide_eq_true c12
           clear c12
           replace H := Option.bind_eq_some_iff.mp H
           obtain ⟨t624, A130, H⟩ := H
           try dsimp only at H
           have A13 := Aside0.mk A130
           clear A130
           replace H := Option.bind_eq_some_iff.mp H
           obtain ⟨t625, A140, H⟩ := H
           try dsimp only at H
           have A14 := Aside0.mk A140
           clear A140
           obtain ⟨y626, hy626⟩ : ∃ y_ : List Int, y_ = (x5_2.set ((ji10) : Int).toNat (wrap64 ((rd x5_2 (ji10)) + (wrap64 (t624 * t625))))) := ⟨_, rfl⟩
           replace H : (offcutref01_Mul.l1 k2 a0 a1 y626 x6_1 (wrap64 (x7_2 + 1))) = some r := by first | (rw [hy626]; with_reducible exact H) | (have H2_ := (Option.bind_some _ _).symm.trans H; rw [hy626]; with_reducible exact H2_) | (have H2_ := (Option.bind_some _ _).symm.trans H; with_reducible exact H2_) | with_reducible exact H | (rw [hy626]; exact H) | exact H
           have Ny626 := Aside0.mk hy626
           clear hy626
           have H' := Aside0.mk H
           clear H
           try go_wp2
           replace HO_5 := Aside0.mk (Kd.R_drew HO_5.out)
           replace HB := Aside0.mk (below_drew1 HB.out)
           obtain ⟨Ao17, co17, eo17⟩ := Kd.R_slice HO_5.out
           (first | subst eo17 | (injection eo17 with f1_ f2_ f3_; have f4_ := f1_.symm; have f5_ := f3_.symm; clear f1_ f2_ f3_; subst f4_; subst f5_))
           have p623 : 0 ≤ ((ji10) : Int) := of_decide_eq_true (by first | (with_reducible assumption) | assumption)
           have q623 : (ji10) < (x5_2.length : Int) := of_decide_eq_true (by first | (with_reducible assumption) | assumption)
           obtain ⟨ad623, e623, hx623_0⟩ := Kd.at_int (Kd.R_reads' HO_5.out).2.2 (ji10) p623 q623
           cases e623
           replace p623 := eq_true p623
           replace q623 := eq_true q623
           refine start_ (n := 20) (S := fun w' => w'.cell? (ad623.add ((ji10)).toNat) = some (.int .i64 (rd x5_2 (ji10)))) (ds := [19]) #[false, false, false, false, false, false, false, false, false, false, false, false, false, false, false, false, false, false, false, false] (by kernel_rfl) rfl rfl (hx623_0) (fun hHeld => ?_); refine with_tabW offcutref01_Mul.tab8 offcutref01_Mul.bits8 (fun HT_ HW_ => ?_)
           generalize wr.drew = w16 at HO_5 HB hx623_0 hHeld ⊢
           refine Short.pureS_ (i := 0) (N := some 31) #[true, false, false, false, false, false, false, false, false, false, false, false, false, false, false, false, false, false, false, false] (any_of HT_.out (by kernel_rfl)) ?_
           refine Short.pureS_ (i := 1) (N := some 32) #[true, true, false, false, false, false, false, false, false, false, false, false, false, false, false, false, false, false, false, false] (any_of HT_.out (by kernel_rfl)) ?_
           refine Short.pureS_ (i := 2) (N := some 33) #[true, true, true, false, false, false, false, false, false, false, false, false, false, false, false, false, false, false, false, false] (any_of HT_.out (by kernel_rfl)) ?_
           refine Short.pureS_ (i := 3) (N := some 34) #[true, true, true, true, false, false, false, false, false, false, false, false, false, false, false, false, false, false, false, false] (any_of HT_.out (by kernel_rfl)) ?_
           refine Short.pureS_ (i := 4) (N := some 35) #[true, true, true, true, true, false, false, false, false, false, false, false, false, false, false, false, false, false, false, false] (any_of HT_.out (by kernel_rfl)) ?_
           refine Short.pureS_ (i := 5) (N := some 36) #[true, true, true, true, true, true, false, false, false, false, false, false, false, false, false, false, false, false, false, false] (any_of HT_.out (by kernel_rfl)) ?_
           refine Short.pureS_ (i := 6) (N := some 37) #[true, true, true, true, true, true, true, false, false, false, false, false, false, false, false, false, false, false, false, false] (any_of HT_.out (by kernel_rfl)) ?_
           refine Short.pureS_ (i := 7) (N := some 38) #[true, true, true, true, true, true, true, true, false, false, false, false, false, false, false, false, false, false, false, false] (any_of HT_.out (by kernel_rfl)) ?_
           refine Short.pureS_ (i := 8) (N := some 39) #[true, true, true, true, true, true, true, true, true, false, false, false, false, false, false, false, false, false, false, false] (any_of HT_.out (by kernel_rfl)) ?_
           refine Short.pureS_ (i := 10) (N := some 41) #[true, true, true, true, true, true, true, true, true, false, true, false, false, false, false, false, false, false, false, false] (any_of HT_.out (by kernel_rfl)) ?_
           refine Short.pureS_ (i := 11) (N := some 42) #[true, true, true, true, true, true, true, true, true, false, true, true, false, false, false, false, false, false, false, false] (any_of HT_.out (by kernel_rfl)) ?_
           refine Short.pureS_ (i := 13) (N := some 44) #[true, true, true, true, true, true, true, true, true, false, true, true, false, true, false, false, false, false, false, false] (any_of HT_.out (by kernel_rfl)) ?_
           refine Short.pureS_ (i := 14) (N := some 45) #[true, true, true, true, true, true, true, true, true, false, true, true, false, true, true, false, false, false, false, false] (any_of HT_.out (by kernel_rfl)) ?_
           refine take_ (i := 9) (N := some 40) (v := ?_) (a' := ?_) #[true, true, true, true, true, true, true, true, true, true, true, true, false, true, true, false, false, false, false, false] rfl rfl (take_ofW HT_.out HW_.out (by kernel_rfl)) (fun _ _ _ h => h) (Or.inl ⟨by rfl, ?_⟩) hHeld ?_ ?_
           rotate_left
           ·intro w' s0
            go_simp
            with_reducible rfl
           rotate_left
           ·simp only [Act.put, List.setIfInBounds_toArray, List.set_cons_zero, List.set_cons_succ, i64_w, i32_w]
            rfl
           refine one_ (i := 12) (N := some 43) #[true, true, true, true, true, true, true, true, true, true, true, true, true, true, true, false, false, false, false, false] rfl rfl (one_of HT_.out (by kernel_rfl)) (by decide) (fun K hK => ?_)
           refine Short.goesD_ Try.func82 #[.string a0, .int .i64 x6_1] ?_
           with_reducible refine (offcutref01_at.calls a0 x6_1 t624 _ A13.out).mono ?_
           rintro e w' ⟨rfl, ⟨nd, rfl⟩⟩
           refine ⟨_, rfl, ?_⟩
           refine hK.out _ _ (hHeld) (fun hHeld => ?_)
           clear hK K
           refine Short.normS_ ?_
           refine one_ (i := 15) (N := some 46) #[true, true, true, true, true, true, true, true, true, true, true, true, true, true, true, true, false, false, false, false] rfl rfl (one_of HT_.out (by kernel_rfl)) (by decide) (fun K hK => ?_)
           refine Short.goesD_ Try.func82 #[.string a1, .int .i64 x7_2] ?_
           with_reducible refine (offcutref01_at.calls a1 x7_2 t625 _ A14.out).mono ?_
           rintro e w' ⟨rfl, ⟨nd, rfl⟩⟩
           refine ⟨_, rfl, ?_⟩
           have p15 : 0 ≤ ((ji10) : Int) := of_decide_eq_true (by first | (with_reducible assumption) | assumption)
           have q15 : ((ji10) : Int) < ((x5_2.length : Int) : Int) := of_decide_eq_true (by first | (with_reducible assumption) | assumption)
           obtain ⟨go15, co15, eo15, gb15, gl15, cl15, HG15⟩ := Kd.R_form HO_5.out (by omega)
           (first | cases eo15 | (injection eo15 with ea_ en_ ec_; (first | subst ea_ | (injection ea_ with ea_; subst ea_)); subst ec_; clear en_))
           have GB15 := Aside0.mk gb15
           have GG15 := Aside0.mk HG15
           clear gb15 gl15 HG15
           (first | simp only [add_plain] at hx623_0 | skip)
           obtain ⟨hx15_0, hf15_0⟩ := Kd.R_celln 0 HO_5.out ((ji10) : Int) p15 q15
           replace p15 := eq_true p15
           replace q15 := eq_true q15
           have HP18 := Kd.R_putn HO_5.out ((ji10) : Int) (wrap64 ((rd x5_2 (ji10)) + (wrap64 (t624 * t625))))
           rw [← Ny626.out] at HP18
           have HQ18 := Aside0.mk HP18
           clear HP18
           refine hK.out _ _ (hHeld) (fun hHeld => ?_)
           clear hK K
           refine Short.normS_ ?_
           refine Short.pureS_ (i := 16) (N := some 47) #[true, true, true, true, true, true, true, true, true, true, true, true, true, true, true, true, true, false, false, false] (any_of HT_.out (by kernel_rfl)) ?_
           refine Short.pureS_ (i := 17) (N := some 48) #[true, true, true, true, true, true, true, true, true, true, true, true, true, true, true, true, true, true, false, false] (any_of HT_.out (by kernel_rfl)) ?_
           refine Short.pureS_ (i := 18) (N := some 49) #[true, true, true, true, true, true, true, true, true, true, true, true, true, true, true, true, true, true, true, false] (any_of HT_.out (by kernel_rfl)) ?_
           refine last_ (i := 19) (N := none) #[true, true, true, true, true, true, true, true, true, true, true, true, true, true, true, true, true, true, true, true] rfl rfl (one_of HT_.out (by kernel_rfl)) (by decide) (fun K hK => ?_)
           refine skip_ (w1 := ?_) (by rfl) rfl ?_ ?_
           rotate_left
           ·go_simp
            rfl
           refine hK.out _ _ ?_
           clear hK K
           refine done_ (done_of HT_.out (by kernel_rfl)) ?_
           try go_wp2
           go_roundg k2
           case measure => have := HK1.out; have := HK2.out; omega
           case rel => exact ⟨(y626), (wrap64 (x7_2 + 1)), (by first | rfl | (simp; done) | (simp [*]; done)), H', ⟨by have := HK1.out; have := HK2.out; omega⟩, ⟨by (with_reducible repeat (first | apply Kd.R_alloc | apply Kd.R_drewN | apply Kd.R_drew)); exact HQ18.out⟩, ⟨by repeat (first | (with_reducible first | exact HB.out | apply below_alloc | apply pw_below_drewN | apply below_drew1 | refine below_set ?_ GB15.out) | exact HB.out)⟩⟩
          ·rw [if_neg c12] at H
           exact absurd H (by simp)
         ·rw [if_neg c11] at H
          exact absurd H (by simp)
        ·rw [if_neg c9] at H
         have c9b0 : decide (x7_2 < (a1.size : Int)) = false := decide_eq_false c9
         clear c9
         have H' := Aside0.mk H
         clear H
         go_wp2
         go_roundg k2
         case measure => have := HK1.out; have := HK2.out; omega
         case rel => exact ⟨(x5_2), (wrap64 (x6_1 + 1)), (by first | rfl | (simp; done) | (simp [*]; done)), H', ⟨by have := HK1.out; have := HK2.out; omega⟩, ⟨by (with_reducible repeat (first | apply Kd.R_alloc | apply Kd.R_drewN | apply Kd.R_drew)); exact HO_5.out⟩, ⟨by repeat (first | (with_reducible first | exact HB.out | apply below_alloc | apply pw_below_drewN | apply below_drew1) | exact HB.out)⟩⟩
     ·rw [if_neg c8] at H
      have c8b0 : decide (x6_1 < (a0.size : Int)) = false := decide_eq_false c8
      clear c8
      have H' := Aside0.mk H
      clear H
      go_wp2
      go_loopg [8, 9, 10] k1 (fun kq v8 v9 v10 w' => ∃ (x8_2 : ByteArray) (x9_2 : Int) (x10_2 : Int), v8 = .string x8_2 ∧ v9 = .int .i64 x9_2 ∧ v10 = .int .i64 x10_2 ∧ Aside0 (offcutref01_Mul.l2 kq x5_1 x8_2 x9_2 x10_2 = some r) ∧ Aside0 (kq ≤ k1) ∧ Aside0 (Kd.R (Kd.int .i64) 3 w' w.heap.size (fun _ => True) v621 x5_1) ∧ Aside0 (Below w.heap.size w w'))
      case atStart => exact ⟨((⟨#[]⟩ : ByteArray)), (0), (0), (by first | rfl | (simp; done) | (simp [*]; done)), (by first | rfl | (simp; done) | (simp [*]; done)), (by first | rfl | (simp; done) | (simp [*]; done)), H', ⟨Nat.le_refl _⟩, ⟨by (with_reducible repeat (first | apply Kd.R_alloc | apply Kd.R_drewN | apply Kd.R_drew)); exact HO_5.out⟩, ⟨by repeat (first | (with_reducible first | exact HB.out | apply below_alloc | apply pw_below_drewN | apply below_drew1) | exact HB.out)⟩⟩
      case round =>
       clear H'
       try clear c1
       try clear p1
       try clear q1
       try clear hx1
       try clear p2
       try clear c4
       try clear c4b0
       try clear c4b1
       try clear c5
       try clear c5b0
       try clear c5b1
       try clear p6
       try clear q6
       try clear hx6
       try clear c8
       try clear c8b0
       try clear c9
       try clear c9b0
       try clear c11
       try clear c11b0
       try clear c12
       try clear c12b0
       try clear p15
       try clear q15
       try clear hx15
       try clear hf15
       try clear hx15_0
       try clear hx623_0
       try clear p15
       try clear p2
       try clear p6
       try clear p623
       try clear q15
       try clear q623
       obtain ⟨x8_2, x9_2, x10_2, rfl, rfl, rfl, HA, HK2, HO_5, HB⟩ := hrel
       cases gk with
       | zero => exact absurd HA.out (by simp [offcutref01_Mul.l2])
       | succ k2 =>
        have H := HA.out
        clear HA
        simp only [offcutref01_Mul.l2] at H
        by_cases c19 : x10_2 < (x5_1.length : Int)
        ·rw [if_pos c19] at H
         have c19b0 : decide (x10_2 < (x5_1.length : Int)) = true := decide_eq_true c19
         clear c19
         by_cases c20 : 0 ≤ x10_2
         ·rw [if_pos c20] at H
          have c20b0 : decide (0 ≤ x10_2) = true := decide_eq_true c20
          clear c20
          replace H := Option.bind_eq_some_iff.mp H
          obtain ⟨t628, A210, H⟩ := H
          try dsimp only at H
          have A21 := Aside0.mk A210
          clear A210
          by_cases c22 : t628.size + x8_2.size ≤ 9223372036854775807
          ·rw [if_pos c22] at H
           have c22b0 := eq_true c22
           have c22b1 : decide (t628.size + x8_2.size ≤ 9223372036854775807) = true := decide_eq_true c22
           try have c22b2 : (9223372036854775807 < t628.size + x8_2.size) = False := eq_false (Nat.not_lt.2 c22)
           have H' := Aside0.mk H
           clear H
           obtain ⟨Ao23, co23, eo23⟩ := Kd.R_slice HO_5.out
           subst eo23
           have p627 : 0 ≤ (x10_2 : Int) := of_decide_eq_true (by first | (with_reducible assumption) | assumption)
           have q627 : x10_2 < (x5_1.length : Int) := of_decide_eq_true (by first | (with_reducible assumption) | assumption)
           obtain ⟨ad627, e627, hx627_0⟩ := Kd.at_int (Kd.R_reads' HO_5.out).2.2 x10_2 p627 q627
           cases e627
           replace p627 := eq_true p627
           replace q627 := eq_true q627
           go_wp2_with (first | ((with_reducible refine gate_callee (f := 80) rfl ?_); refine Short.goesS_ (some 64) Try.func80 #[.int .i64 (Int.tmod (wrap64 ((rd x5_1 x10_2) + x9_2)) 10)] ?_; (with_reducible refine (offcutref01_sign.calls (Int.tmod (wrap64 ((rd x5_1 x10_2) + x9_2)) 10) t628 _ A21.out).mono ?_); rintro e w' ⟨rfl, ⟨nd, rfl⟩⟩; refine ⟨_, rfl, ?_⟩))
           go_roundg k2
           case measure => have := HK1.out; have := HK2.out; omega
           case rel => exact ⟨(t628 ++ x8_2), (wrap64 (Int.tdiv (wrap64 ((rd x5_1 x10_2) + x9_2)) 10)), (wrap64 (x10_2 + 1)), (by first | rfl | (simp; done) | (simp [*]; done)), (by first | rfl | (simp; done) | (simp [*]; done)), (by first | rfl | (simp; done) | (simp [*]; done)), H', ⟨by have := HK1.out; have := HK2.out; omega⟩, ⟨by (with_reducible repeat (first | apply Kd.R_alloc | apply Kd.R_drewN | apply Kd.R_drew)); exact HO_5.out⟩, ⟨by repeat (first | (with_reducible first | exact HB.out | apply below_alloc | apply pw_below_drewN | apply below_drew1) | exact HB.out)⟩⟩
          ·rw [if_neg c22] at H
           exact absurd H (by simp)
         ·rw [if_neg c20] at H
          exact absurd H (by simp)
        ·rw [if_neg c19] at H
         have c19b0 : decide (x10_2 < (x5_1.length : Int)) = false := decide_eq_false c19
         clear c19
         replace H := Option.bind_eq_some_iff.mp H
         obtain ⟨t629, A240, H⟩ := H
         replace H : (some t629) = some r := H
         have A24 := Aside0.mk A240
         clear A240
         obtain rfl := Option.some.inj H
         obtain ⟨Ao25, co25, eo25⟩ := Kd.R_slice HO_5.out
         subst eo25
         go_wp2_with (first | ((with_reducible refine gate_callee (f := 81) rfl ?_); refine Short.goesS_ (some 70) Try.func81 #[.string x8_2] ?_; (with_reducible refine (offcutref01_cut.calls k2 x8_2 t629 _ A24.out).mono ?_); rintro e w' ⟨rfl, ⟨nd, rfl⟩⟩; refine ⟨_, rfl, ?_⟩))
         go_ret
         exact ⟨by first | rfl | (simp [errW_none, errW_some] <;> rfl) | (simp only [← hji3]; first | rfl | (simp [errW_none, errW_some] <;> rfl)) | (simp [*, errW_none, errW_some] <;> rfl), by repeat (first | (with_reducible first | exact HB.out | apply below_alloc | apply pw_below_drewN | apply below_drew1) | exact HB.out)⟩
  ·rw [if_neg c5] at H
   exact absurd H (by simp)
 ·rw [if_neg c4] at H
  exact absurd H (by simp)

/-- What is carried out of the places. -/
theorem offcutref01_Mul.ev_c {s : List Nat} {V : Nat} (hs : ∀ j, s.getD j 0 ≤ 81000000000) (hl : s.length < 3000000000) (hV : Dec.dv s = V) (hVl : V < 10 ^ s.length) (d : Nat) : ∀ (out : List Nat) (c : Nat), out.length + d = s.length → Dec.Ds out → c ≤ 81000000000 →
  Dec.dv (s.take out.length) = Dec.dv out + 10 ^ out.length * c → Ev (fun k => offcutref01_Mul.l2 k (Dec.ints s) (Dec.tx out) (c : Int) (out.length : Int)) (Dec.dec V) := by
 induction d with
 | zero =>
  intro out c hd ho hc hv
  rw [List.take_of_length_le (by omega), hV, show out.length = s.length from by omega] at hv
  have hc0 : c = 0 := by
   rcases Nat.eq_zero_or_pos c with h | h
   ·exact h
   ·have := Nat.mul_le_mul_left (10 ^ s.length) h
    omega
  have hvv : Dec.dv out = V := by rw [hc0] at hv; omega
  refine Ev.step (f := fun k => (offcutref01_cut.f k (Dec.tx out)).bind fun t => some t) (fun k => ?_) ?_
  ·rw [offcutref01_Mul.l2, if_neg (by rw [Dec.ints_length]; omega)]
  ·rw [← hvv]
   exact Ev.bind (offcutref01_cut.ev ho) (Ev.now _)
 | succ d ih =>
  intro out c hd ho hc hv
  have h1 := hs out.length
  obtain ⟨p, hp⟩ : ∃ p, p = s.getD out.length 0 := ⟨_, rfl⟩
  rw [← hp] at h1
  refine Ev.step (f := fun k => offcutref01_Mul.l2 k (Dec.ints s) (Dec.tx (out ++ [(p + c) % 10])) (((p + c) / 10 : Nat) : Int) ((out.length + 1 : Nat) : Int)) (fun k => ?_) ?_
  ·rw [offcutref01_Mul.l2, if_pos (by rw [Dec.ints_length]; omega), if_pos (by omega), Dec.rd_ints, ← hp, Dec.w64a _ _ (by omega), Dec.tmod10, Dec.tdiv10, offcutref01_sign.sem _ (Nat.mod_lt _ (by omega)), Option.bind_some, Dec.tx_append, Dec.tx_size, Dec.tx_size, if_pos (by rw [List.length_singleton]; omega), Dec.w64n _ (by omega), Dec.w64s _ (by omega)]
  ·have := ih (out ++ [(p + c) % 10]) ((p + c) / 10) (by rw [List.length_append, List.length_singleton]; omega) (ho.snoc (Nat.mod_lt _ (by omega))) (by omega) (by
    rw [List.length_append, List.length_singleton, Dec.dv_take_succ, ← hp, Dec.dv_snoc, Nat.pow_succ]
    have h3 : 10 ^ out.length * (p + c) = 10 ^ out.length * ((p + c) % 10 + 10 * ((p + c) / 10)) := by congr 1; omega
    rw [Nat.mul_add, Nat.mul_add, ← Nat.mul_assoc] at h3
    omega)
   rw [List.length_append, List.length_singleton] at this
   exact this
/-- One row of the product; then what follows (K). -/
theorem offcutref01_Mul.ev_r {a b : List Nat} (ha : Dec.Ds a) (hb : Dec.Ds b) (la : a.length < 1000000000) (lb : b.length < 1000000000) {r : ByteArray} {i : Nat} (hi : i < a.length) (M : Nat)
  (next : ∀ s : List Nat, s.length = a.length + b.length + 1 → (∀ j, s.getD j 0 ≤ 81 * (i + 1)) → Dec.dv s = M + 10 ^ i * (a.getD i 0 * Dec.dv b) → Ev (fun k => offcutref01_Mul.l0 k (Dec.tx a) (Dec.tx b) (Dec.ints s) ((i + 1 : Nat) : Int)) r) (d : Nat) : ∀ (s : List Nat) (q : Nat), q + d = b.length → s.length = a.length + b.length + 1 → (∀ j, s.getD j 0 ≤ 81 * (i + 1)) → (∀ j, i + q ≤ j → s.getD j 0 ≤ 81 * i) →
  Dec.dv s = M + 10 ^ i * (a.getD i 0 * Dec.dv (b.take q)) → Ev (fun k => offcutref01_Mul.l1 k (Dec.tx a) (Dec.tx b) (Dec.ints s) (i : Int) (q : Int)) r := by
 induction d with
 | zero =>
  intro s q hd hl h1 h2 hv
  refine Ev.step (f := fun k => offcutref01_Mul.l0 k (Dec.tx a) (Dec.tx b) (Dec.ints s) ((i + 1 : Nat) : Int)) (fun k => ?_) (next s hl h1 ?_)
  ·rw [offcutref01_Mul.l1, Dec.tx_size, if_neg (by omega), Dec.w64s _ (by omega)]
  ·rw [List.take_of_length_le (by omega)] at hv
   exact hv
 | succ d ih =>
  intro s q hd hl h1 h2 hv
  have g1 := ha.getD i
  have g2 := hb.getD q
  obtain ⟨x, hx⟩ : ∃ x, x = a.getD i 0 := ⟨_, rfl⟩
  obtain ⟨y, hy⟩ : ∃ y, y = b.getD q 0 := ⟨_, rfl⟩
  rw [← hx] at g1
  rw [← hy] at g2
  have hxy : x * y ≤ 81 := Nat.mul_le_mul (show x ≤ 9 from by omega) (show y ≤ 9 from by omega)
  have hp := h2 (i + q) (Nat.le_refl _)
  refine Ev.step (f := fun k => offcutref01_Mul.l1 k (Dec.tx a) (Dec.tx b) (Dec.ints (s.set (i + q) (s.getD (i + q) 0 + x * y))) (i : Int) ((q + 1 : Nat) : Int)) (fun k => ?_) ?_
  ·rw [offcutref01_Mul.l1, Dec.tx_size, if_pos (by omega), Dec.w64a _ _ (by omega), if_pos (by omega), if_pos (by rw [Dec.ints_length]; omega), offcutref01_at.sem ha (by omega), offcutref01_at.sem hb (by omega), Option.bind_some, Option.bind_some, ← hx, ← hy, Dec.rd_ints, Int.toNat_natCast, Dec.w64m _ _ (by omega), Dec.w64a _ _ (by omega), Dec.ints_set, Dec.w64s _ (by omega)]
  ·refine ih _ (q + 1) (by omega) (by rw [List.length_set]; exact hl) (fun j => ?_) (fun j hj => ?_) ?_
   ·rw [Dec.getD_set]
    split
    ·omega
    ·exact h1 j
   ·rw [Dec.getD_set, if_neg (by omega)]
    exact h2 j (by omega)
   ·rw [Dec.dv_set _ _ (by omega), hv, Dec.dv_take_succ, ← hx, ← hy, Nat.mul_add, Nat.mul_add, Nat.pow_add]
    have : 10 ^ i * (x * (10 ^ q * y)) = 10 ^ i * 10 ^ q * (x * y) := by rw [Nat.mul_left_comm x, Nat.mul_assoc]
    omega
theorem offcutref01_Mul.ev_l {a b : List Nat} (ha : Dec.Ds a) (hb : Dec.Ds b) (la : a.length < 1000000000) (lb : b.length < 1000000000) (d : Nat) : ∀ (s : List Nat) (i : Nat), i + d = a.length → s.length = a.length + b.length + 1 → (∀ j, s.getD j 0 ≤ 81 * i) → Dec.dv s = Dec.dv (a.take i) * Dec.dv b →
  Ev (fun k => offcutref01_Mul.l0 k (Dec.tx a) (Dec.tx b) (Dec.ints s) (i : Int)) (Dec.dec (Dec.dv a * Dec.dv b)) := by
 induction d with
 | zero =>
  intro s i hd hl h1 hv
  refine Ev.step (f := fun k => offcutref01_Mul.l2 k (Dec.ints s) (Dec.tx []) ((0 : Nat) : Int) ((([] : List Nat).length : Nat) : Int)) (fun k => ?_) ?_
  ·rw [offcutref01_Mul.l0, Dec.tx_size, if_neg (by omega)]
   rfl
  ·rw [List.take_of_length_le (by omega)] at hv
   refine offcutref01_Mul.ev_c (fun j => Nat.le_trans (h1 j) (by omega)) (by omega) hv ?_ s.length [] 0 (by rw [List.length_nil]; omega) Dec.Ds.nil (by omega) (by rw [List.length_nil, List.take_zero]; rfl)
   rw [hl, Nat.pow_succ, Nat.pow_add]
   have h2 := Nat.mul_le_mul (Nat.le_of_lt (Dec.dv_lt ha)) (Nat.le_of_lt (Dec.dv_lt hb))
   have h3 : 0 < 10 ^ a.length * 10 ^ b.length := Nat.mul_pos (Nat.pow_pos (by omega)) (Nat.pow_pos (by omega))
   omega
 | succ d ih =>
  intro s i hd hl h1 hv
  refine Ev.step (f := fun k => offcutref01_Mul.l1 k (Dec.tx a) (Dec.tx b) (Dec.ints s) (i : Int) ((0 : Nat) : Int)) (fun k => ?_) ?_
  ·rw [offcutref01_Mul.l0, Dec.tx_size, if_pos (by omega)]
   rfl
  ·refine offcutref01_Mul.ev_r ha hb la lb (by omega) (Dec.dv s) (fun s' hl' h1' hv' => ?_) b.length s 0 (by omega) hl (fun j => Nat.le_trans (h1 j) (by omega)) (fun j _ => h1 j) (by rw [List.take_zero, Dec.dv]; omega)
   refine ih s' (i + 1) (by omega) hl' h1' ?_
   rw [hv', hv, Dec.dv_take_succ, Nat.add_mul, Nat.mul_assoc]
theorem offcutref01_Mul.ev {a b : List Nat} (ha : Dec.Ds a) (hb : Dec.Ds b) (la : a.length < 1000000000) (lb : b.length < 1000000000) : Ev (fun k => offcutref01_Mul.f k (Dec.tx a) (Dec.tx b)) (Dec.dec (Dec.dv a * Dec.dv b)) := by
 have := offcutref01_Mul.ev_l ha hb la lb a.length (List.replicate (a.length + b.length + 1) 0) 0 (by omega) (List.length_replicate) (fun j => by rw [List.getD_eq_getElem?_getD, List.getElem?_replicate]; split <;> simp) (by rw [Dec.dv_zeros, List.take_zero, Dec.dv, Nat.zero_mul])
 refine Ev.congr (fun k => ?_) this
 unfold offcutref01_Mul.f
 rw [Dec.tx_size, Dec.tx_size, Dec.w64a _ _ (by omega), Dec.w64s _ (by omega), if_pos (by omega), Int.toNat_natCast, if_pos (by omega), Dec.ints_zeros]
 rfl
set_option synthInstance.checkSynthOrder false in
open Lin in
instance offcutref01_Mul.t {k : Nat} {a0 : ByteArray} {a1 : ByteArray} {r : ByteArray} [h : Ans (offcutref01_Mul.f k a0 a1) r] : Tl Try.prog 51 [.one (.val (.string a0)), .one (.val (.string a1))] (.el (.one (.val (.string r)))) := ⟨Tells.of Try.func51 fun out w vs ho hl hv => by
 obtain ⟨u0, u1, rfl, h0, h1⟩ := args2 hl hv
 obtain rfl := h0.1
 obtain rfl := h1.1
 refine (offcutref01_Mul.calls k a0 a1 _ w h.out).mono ?_
 rintro e w' ⟨rfl, hb⟩
 exact ⟨_, rfl, ⟨rfl, rfl⟩, hb⟩⟩
mutual
def offcutref01_Add.l0 : Nat → ByteArray → ByteArray → ByteArray → Int → Int → Option (ByteArray)
 | 0, _, _, _, _, _ => none
 | k + 1, x0, x1, x5, x6, x7 => if x7 ≤ (x0.size : Int) then (offcutref01_Add.j1 k x0 x1 x5 x6 x7 true) else (offcutref01_Add.j1 k x0 x1 x5 x6 x7 (decide (x7 ≤ (x1.size : Int))))
def offcutref01_Add.j1 : Nat → ByteArray → ByteArray → ByteArray → Int → Int → Bool → Option (ByteArray)
 | 0, _, _, _, _, _, _ => none
 | k + 1, x0, x1, x5, x6, x7, x18 => if x18 = true then ((offcutref01_at.f x0 x7).bind fun t630 => ((offcutref01_at.f x1 x7).bind fun t631 => ((offcutref01_sign.f (Int.tmod (wrap64 ((wrap64 (t630 + t631)) + x6)) 10)).bind fun t632 => (if t632.size + x5.size ≤ 9223372036854775807 then (offcutref01_Add.l0 k x0 x1 (t632 ++ x5) (wrap64 (Int.tdiv (wrap64 ((wrap64 (t630 + t631)) + x6)) 10)) (wrap64 (x7 + 1))) else (none))))) else ((offcutref01_cut.f k x5).bind fun t633 => (some t633))
end
def offcutref01_Add.f (k : Nat) (a0 : ByteArray) (a1 : ByteArray) : Option (ByteArray) := offcutref01_Add.l0 k a0 a1 (⟨#[]⟩ : ByteArray) 0 0
set_option maxHeartbeats 8000000 in
set_option maxRecDepth 100000 in
theorem offcutref01_Add.calls (k : Nat) (a0 : ByteArray) (a1 : ByteArray) (r : ByteArray) (w : World) (h : offcutref01_Add.f k a0 a1 = some r) :
  Calls Try.prog 56 #[.string a0, .string a1] w fun e w' => e = .returned (.string r) ∧ Drawn0 w w' := by
 have H : (offcutref01_Add.l0 k a0 a1 (⟨#[]⟩ : ByteArray) 0 0) = some r := h
 clear h
 have H' := Aside0.mk H
 clear H
 go_enter Try.func56, Try.ntmps56
 go_wp2
 go_loopg [5, 6, 7] k (fun kq v5 v6 v7 w' => ∃ (x5_1 : ByteArray) (x6_1 : Int) (x7_1 : Int), v5 = .string x5_1 ∧ v6 = .int .i64 x6_1 ∧ v7 = .int .i64 x7_1 ∧ Aside0 (offcutref01_Add.l0 kq a0 a1 x5_1 x6_1 x7_1 = some r) ∧ Aside0 (kq ≤ k) ∧ Drawn0 w w')
 case atStart => exact ⟨((⟨#[]⟩ : ByteArray)), (0), (0), (by first | rfl | (simp; done) | (simp [*]; done)), (by first | rfl | (simp; done) | (simp [*]; done)), (by first | rfl | (simp; done) | (simp [*]; done)), H', ⟨Nat.le_refl _⟩, by repeat (first | exact Drawn0.refl _ | apply Drawn0.step)⟩
 case round =>
  clear H'
  try clear p2
  obtain ⟨x5_1, x6_1, x7_1, rfl, rfl, rfl, HA, HK1, ⟨m1, rfl⟩⟩ := hrel
  cases gk with
  | zero => exact absurd HA.out (by simp [offcutref01_Add.l0])
  | succ k1 =>
   have H := HA.out
   clear HA
   simp only [offcutref01_Add.l0] at H
   have HC3 := Aside0.mk H
   clear H
   go_upto_region 4 with (fail)
   go_cut [18] (fun v18 wc => ∃ (kq : Nat) (x18_2 : Bool), v18 = .bool x18_2 ∧ Aside0 (offcutref01_Add.j1 kq a0 a1 x5_1 x6_1 x7_1 x18_2 = some r) ∧ Aside0 (kq ≤ k1) ∧ Drawn0 w wc)
   case first =>
    have H := HC3.out
    clear HC3
    by_cases c4 : x7_1 ≤ (a0.size : Int)
    ·rw [if_pos c4] at H
     have c4b0 : decide (x7_1 ≤ (a0.size : Int)) = true := decide_eq_true c4
     clear c4
     (first | rw [c4b0] | (simp only [i64_w, i32_w]; rw [c4b0]) | skip)
     have H' := Aside0.mk H
     clear H
     go_wp2
     go_meet
     case rel => exact ⟨_, (true), (by first | rfl | (simp; done) | (simp [*]; done)), H', ⟨by have := HK1.out; first | omega | exact Nat.le_refl _⟩, by repeat (first | exact Drawn0.refl _ | apply Drawn0.step)⟩
    ·rw [if_neg c4] at H
     have c4b0 : decide (x7_1 ≤ (a0.size : Int)) = false := decide_eq_false c4
     clear c4
     (first | rw [c4b0] | (simp only [i64_w, i32_w]; rw [c4b0]) | skip)
     have H' := Aside0.mk H
     clear H
     go_wp2
     go_meet
     case rel => exact ⟨_, (decide (x7_1 ≤ (a1.size : Int))), (by first | rfl | (simp; done) | (simp [*]; done)), H', ⟨by have := HK1.out; first | omega | exact Nat.le_refl _⟩, by repeat (first | exact Drawn0.refl _ | apply Drawn0.step)⟩
   case rest =>
    clear HC3
    try clear p2
    try clear c4
    try clear c4b0
    try clear p2
    obtain ⟨kq, x18_2, rfl, HA, HJ2, ⟨mc2, rfl⟩⟩ := hcut
    cases kq with
    | zero => exact absurd HA.out (by simp [offcutref01_Add.j1])
    | succ kj2 =>
     have H := HA.out
     clear HA
     simp only [offcutref01_Add.j1] at H
     by_cases c5 : x18_2 = true
     ·subst c5
      have H1 : ((offcutref01_at.f a0 x7_1).bind fun t630 => ((offcutref01_at.f a1 x7_1).bind fun t631 => ((offcutref01_sign.f (Int.tmod (wrap64 ((wrap64 (t630 + t631)) + x6_1)) 10)).bind fun t632 => (if t632.size + x5_1.size ≤ 9223372036854775807 then (offcutref01_Add.l0 kj2 a0 a1 (t632 ++ x5_1) (wrap64 (Int.tdiv (wrap64 ((wrap64 (t630 + t631)) + x6_1)) 10)) (wrap64 (x7_1 + 1))) else (none))))) = some r := by rw [if_pos rfl] at H; exact H
      clear H
      have H := H1
      clear H1
      replace H := Option.bind_eq_some_iff.mp H
      obtain ⟨t630, A60, H⟩ := H
      try dsimp only at H
      have A6 := Aside0.mk A60
      clear A60
      replace H := Option.bind_eq_some_iff.mp H
      obtain ⟨t631, A70, H⟩ := H
      try dsimp only at H
      have A7 := Aside0.mk A70
      clear A70
      replace H := Option.bind_eq_some_iff.mp H
      obtain ⟨t632, A80, H⟩ := H
      try dsimp only at H
      have A8 := Aside0.mk A80
      clear A80
      by_cases c9 : t632.size + x5_1.size ≤ 9223372036854775807
      ·rw [if_pos c9] at H
       have c9b0 := eq_true c9
       have c9b1 : decide (t632.size + x5_1.size ≤ 9223372036854775807) = true := decide_eq_true c9
       try have c9b2 : (9223372036854775807 < t632.size + x5_1.size) = False := eq_false (Nat.not_lt.2 c9)
       have H' := Aside0.mk H
       clear H
       go_wp2_with (first | ((with_reducible refine gate_callee (f := 82) rfl ?_); refine Short.goesS_ (some 23) Try.func82 #[.string a0, .int .i64 x7_1] ?_; (with_reducible refine (offcutref01_at.calls a0 x7_1 t630 _ A6.out).mono ?_); rintro e w' ⟨rfl, ⟨nd, rfl⟩⟩; refine ⟨_, rfl, ?_⟩) | ((with_reducible refine gate_callee (f := 82) rfl ?_); refine Short.goesS_ (some 26) Try.func82 #[.string a1, .int .i64 x7_1] ?_; (with_reducible refine (offcutref01_at.calls a1 x7_1 t631 _ A7.out).mono ?_); rintro e w' ⟨rfl, ⟨nd, rfl⟩⟩; refine ⟨_, rfl, ?_⟩) | ((with_reducible refine gate_callee (f := 80) rfl ?_); refine Short.goesS_ (some 32) Try.func80 #[.int .i64 (Int.tmod (wrap64 ((wrap64 (t630 + t631)) + x6_1)) 10)] ?_; (with_reducible refine (offcutref01_sign.calls (Int.tmod (wrap64 ((wrap64 (t630 + t631)) + x6_1)) 10) t632 _ A8.out).mono ?_); rintro e w' ⟨rfl, ⟨nd, rfl⟩⟩; refine ⟨_, rfl, ?_⟩))
       go_roundg kj2
       case measure => have := HK1.out; have := HJ2.out; omega
       case rel => exact ⟨(t632 ++ x5_1), (wrap64 (Int.tdiv (wrap64 ((wrap64 (t630 + t631)) + x6_1)) 10)), (wrap64 (x7_1 + 1)), (by first | rfl | (simp; done) | (simp [*]; done)), (by first | rfl | (simp; done) | (simp [*]; done)), (by first | rfl | (simp; done) | (simp [*]; done)), H', ⟨by have := HK1.out; have := HJ2.out; omega⟩, by repeat (first | exact Drawn0.refl _ | apply Drawn0.step)⟩
      ·rw [if_neg c9] at H
       exact absurd H (by simp)
     ·replace c5 := Bool.eq_false_iff.mpr c5
      subst c5
      have H1 : ((offcutref01_cut.f kj2 x5_1).bind fun t633 => (some t633)) = some r := by rw [if_neg (show ¬ (false = true) by decide)] at H; exact H
      clear H
      have H := H1
      clear H1
      replace H := Option.bind_eq_some_iff.mp H
      obtain ⟨t633, A100, H⟩ := H
      replace H : (some t633) = some r := H
      have A10 := Aside0.mk A100
      clear A100
      obtain rfl := Option.some.inj H
      go_wp2_with (first | ((with_reducible refine gate_callee (f := 81) rfl ?_); refine Short.goesS_ (some 38) Try.func81 #[.string x5_1] ?_; (with_reducible refine (offcutref01_cut.calls kj2 x5_1 t633 _ A10.out).mono ?_); rintro e w' ⟨rfl, ⟨nd, rfl⟩⟩; refine ⟨_, rfl, ?_⟩))
      go_ret
      exact ⟨by first | rfl | (simp; done) | (simp [*]; done), by repeat (first | exact Drawn0.refl _ | apply Drawn0.step)⟩

theorem offcutref01_Add.l0_eq (k : Nat) {a b : List Nat} (x5 : ByteArray) (x6 : Int) (j : Nat) : offcutref01_Add.l0 (k + 1) (Dec.tx a) (Dec.tx b) x5 x6 (j : Int) = offcutref01_Add.j1 k (Dec.tx a) (Dec.tx b) x5 x6 (j : Int) (decide (j ≤ a.length ∨ j ≤ b.length)) := by
 rw [offcutref01_Add.l0, Dec.tx_size, Dec.tx_size]
 by_cases h : j ≤ a.length
 ·rw [if_pos (by omega), decide_eq_true (.inl h)]
 ·rw [if_neg (by omega)]
  rw [show decide ((j : Int) ≤ (b.length : Int)) = decide (j ≤ a.length ∨ j ≤ b.length) from decide_eq_decide.2 (by omega)]
theorem offcutref01_Add.ev_l {a b : List Nat} (ha : Dec.Ds a) (hb : Dec.Ds b) (la : a.length < 1000000000) (lb : b.length < 1000000000) (d : Nat) : ∀ (out : List Nat) (c : Nat), out.length + d = max a.length b.length + 1 → Dec.Ds out → c ≤ 1 →
  Dec.dv (a.take out.length) + Dec.dv (b.take out.length) = Dec.dv out + 10 ^ out.length * c → Ev (fun k => offcutref01_Add.l0 k (Dec.tx a) (Dec.tx b) (Dec.tx out) (c : Int) (out.length : Int)) (Dec.dec (Dec.dv a + Dec.dv b)) := by
 induction d with
 | zero =>
  intro out c hd ho hc hv
  have h1 := Dec.dv_lt ha
  have h2 := Dec.dv_lt hb
  obtain ⟨m, hm⟩ : ∃ m, out.length = m + 1 := ⟨max a.length b.length, by omega⟩
  have h3 : 10 ^ a.length ≤ 10 ^ m := Nat.pow_le_pow_right (by omega) (by omega)
  have h4 : 10 ^ b.length ≤ 10 ^ m := Nat.pow_le_pow_right (by omega) (by omega)
  rw [List.take_of_length_le (by omega), List.take_of_length_le (by omega), hm, Nat.pow_succ] at hv
  have hc0 : c = 0 := by
   rcases Nat.eq_zero_or_pos c with h | h
   ·exact h
   ·obtain rfl : c = 1 := by omega
    omega
  subst hc0
  have hvv : Dec.dv out = Dec.dv a + Dec.dv b := by omega
  refine Ev.step (f := fun k => offcutref01_Add.j1 k (Dec.tx a) (Dec.tx b) (Dec.tx out) ((0 : Nat) : Int) (out.length : Int) false) (fun k => ?_) ?_
  ·rw [offcutref01_Add.l0_eq, decide_eq_false (by omega)]
  ·refine Ev.step (f := fun k => (offcutref01_cut.f k (Dec.tx out)).bind fun t => some t) (fun k => ?_) ?_
   ·rw [offcutref01_Add.j1, if_neg (by simp)]
   ·rw [← hvv]
    exact Ev.bind (offcutref01_cut.ev ho) (Ev.now _)
 | succ d ih =>
  intro out c hd ho hc hv
  have h1 := ha.getD out.length
  have h2 := hb.getD out.length
  obtain ⟨p, hp⟩ : ∃ p, p = a.getD out.length 0 := ⟨_, rfl⟩
  obtain ⟨q, hq⟩ : ∃ q, q = b.getD out.length 0 := ⟨_, rfl⟩
  refine Ev.step (f := fun k => offcutref01_Add.j1 k (Dec.tx a) (Dec.tx b) (Dec.tx out) (c : Int) (out.length : Int) true) (fun k => ?_) ?_
  ·rw [offcutref01_Add.l0_eq, decide_eq_true (by omega)]
  ·refine Ev.step (f := fun k => offcutref01_Add.l0 k (Dec.tx a) (Dec.tx b) (Dec.tx (out ++ [(p + q + c) % 10])) (((p + q + c) / 10 : Nat) : Int) ((out.length + 1 : Nat) : Int)) (fun k => ?_) ?_
   ·rw [offcutref01_Add.j1, if_pos rfl, offcutref01_at.sem ha (by omega), offcutref01_at.sem hb (by omega), ← hp, ← hq]
    rw [Option.bind_some, Option.bind_some, Dec.w64a _ _ (by omega), Dec.w64a _ _ (by omega), Dec.tmod10, Dec.tdiv10, offcutref01_sign.sem _ (Nat.mod_lt _ (by omega)), Option.bind_some, Dec.tx_append, Dec.tx_size, Dec.tx_size, if_pos (by rw [List.length_singleton]; omega), Dec.w64n _ (by omega), Dec.w64s _ (by omega)]
   ·have := ih (out ++ [(p + q + c) % 10]) ((p + q + c) / 10) (by rw [List.length_append, List.length_singleton]; omega) (ho.snoc (Nat.mod_lt _ (by omega))) (by omega) (by
     rw [List.length_append, List.length_singleton, Dec.dv_take_succ, Dec.dv_take_succ, ← hp, ← hq, Dec.dv_snoc, Nat.pow_succ]
     have h3 : 10 ^ out.length * (p + q + c) = 10 ^ out.length * ((p + q + c) % 10 + 10 * ((p + q + c) / 10)) := by congr 1; omega
     rw [Nat.mul_add, Nat.mul_add, Nat.mul_add, ← Nat.mul_assoc] at h3
     omega)
    rw [List.length_append, List.length_singleton] at this
    exact this
theorem offcutref01_Add.ev {a b : List Nat} (ha : Dec.Ds a) (hb : Dec.Ds b) (la : a.length < 1000000000) (lb : b.length < 1000000000) : Ev (fun k => offcutref01_Add.f k (Dec.tx a) (Dec.tx b)) (Dec.dec (Dec.dv a + Dec.dv b)) :=
 offcutref01_Add.ev_l ha hb la lb (max a.length b.length + 1) [] 0 (by rw [List.length_nil]; omega) Dec.Ds.nil (by omega) (by rw [List.length_nil, List.take_zero, List.take_zero]; rfl)
set_option synthInstance.checkSynthOrder false in
open Lin in
instance offcutref01_Add.t {k : Nat} {a0 : ByteArray} {a1 : ByteArray} {r : ByteArray} [h : Ans (offcutref01_Add.f k a0 a1) r] : Tl Try.prog 56 [.one (.val (.string a0)), .one (.val (.string a1))] (.el (.one (.val (.string r)))) := ⟨Tells.of Try.func56 fun out w vs ho hl hv => by
 obtain ⟨u0, u1, rfl, h0, h1⟩ := args2 hl hv
 obtain rfl := h0.1
 obtain rfl := h1.1
 refine (offcutref01_Add.calls k a0 a1 _ w h.out).mono ?_
 rintro e w' ⟨rfl, hb⟩
 exact ⟨_, rfl, ⟨rfl, rfl⟩, below_of_drawn hb⟩⟩
mutual
def offcutref01_Of.l0 : Nat → List Int → ByteArray → Int → Option (ByteArray)
 | 0, _, _, _ => none
 | k + 1, x0, x3, x4 => if x4 ≥ 0 then ((offcutref01_Mul.f k x3 (⟨#[52, 50, 57, 52, 57, 54, 55, 50, 57, 54]⟩ : ByteArray)).bind fun t634 => (if 0 ≤ x4 then (if x4 < (x0.length : Int) then (offcutref01_Of.l1 k x0 t634 x4 (rd x0 x4) (⟨#[]⟩ : ByteArray)) else (none)) else (none))) else (some x3)
def offcutref01_Of.l1 : Nat → List Int → ByteArray → Int → Int → ByteArray → Option (ByteArray)
 | 0, _, _, _, _, _ => none
 | k + 1, x0, x3, x4, x5, x6 => if x5 > 0 then ((offcutref01_sign.f (wrap64 (Int.tmod x5 10))).bind fun t636 => (if t636.size + x6.size ≤ 9223372036854775807 then (offcutref01_Of.l1 k x0 x3 x4 ((Int.tdiv x5 10) % 4294967296) (t636 ++ x6)) else (none))) else ((offcutref01_cut.f k x6).bind fun t637 => ((offcutref01_Add.f k x3 t637).bind fun t638 => (offcutref01_Of.l0 k x0 t638 (wrap64 (x4 - 1)))))
end
def offcutref01_Of.f (k : Nat) (l0 : List Int) : Option (ByteArray) := offcutref01_Of.l0 k l0 (⟨#[48]⟩ : ByteArray) (wrap64 ((l0.length : Int) - 1))
set_option maxHeartbeats 8000000 in
set_option maxRecDepth 100000 in
theorem offcutref01_Of.calls (k : Nat) (A0 : Option Addr) (c0 : Nat) (l0 : List Int) (r : ByteArray) (w : World) (hr0 : Kd.C (Kd.int .u32) w A0 l0.length l0) (hc0 : l0.length ≤ c0) (h : offcutref01_Of.f k l0 = some r) :
  Calls Try.prog 47 #[.slice A0 l0.length c0] w fun e w' => e = .returned (.string r) ∧ Below w.heap.size w w' := by
 have HR0 := Aside0.mk hr0
 have HC0 := Aside0.mk hc0
 clear hr0 hc0
 have HB := Aside0.mk (Below.refl w.heap.size w)
 have H : (offcutref01_Of.l0 k l0 (⟨#[48]⟩ : ByteArray) (wrap64 ((l0.length : Int) - 1))) = some r := h
 clear h
 have H' := Aside0.mk H
 clear H
 go_enter Try.func47, Try.ntmps47
 go_wp2
 go_loopg [3, 4] k (fun kq v3 v4 w' => ∃ (x3_1 : ByteArray) (x4_1 : Int), v3 = .string x3_1 ∧ v4 = .int .i64 x4_1 ∧ Aside0 (offcutref01_Of.l0 kq l0 x3_1 x4_1 = some r) ∧ Aside0 (kq ≤ k) ∧ Aside0 (Below w.heap.size w w'))
 case atStart => exact ⟨((⟨#[48]⟩ : ByteArray)), (wrap64 ((l0.length : Int) - 1)), (by first | rfl | (simp; done) | (simp [*]; done)), (by first | rfl | (simp; done) | (simp [*]; done)), H', ⟨Nat.le_refl _⟩, ⟨by repeat (first | (with_reducible first | exact HB.out | apply below_alloc | apply pw_below_drewN | apply below_drew1) | exact HB.out)⟩⟩
 case round =>
  clear H'
  obtain ⟨x3_1, x4_1, rfl, rfl, HA, HK1, HB⟩ := hrel
  cases gk with
  | zero => exact absurd HA.out (by simp [offcutref01_Of.l0])
  | succ k1 =>
   have H := HA.out
   clear HA
   simp only [offcutref01_Of.l0] at H
   by_cases c2 : x4_1 ≥ 0
   ·rw [if_pos c2] at H
    have c2b0 : decide (0 ≤ x4_1) = true := decide_eq_true c2
    clear c2
    replace H := Option.bind_eq_some_iff.mp H
    obtain ⟨t634, A30, H⟩ := H
    try dsimp only at H
    have A3 := Aside0.mk A30
    clear A30
    by_cases c4 : 0 ≤ x4_1
    ·rw [if_pos c4] at H
     have c4b0 : decide (0 ≤ x4_1) = true := decide_eq_true c4
     clear c4
     by_cases c5 : x4_1 < (l0.length : Int)
     ·rw [if_pos c5] at H
      have c5b0 : decide (x4_1 < (l0.length : Int)) = true := decide_eq_true c5
      clear c5
      have H' := Aside0.mk H
      clear H
      go_wp2_with (first | ((with_reducible refine gate_callee (f := 51) rfl ?_); refine Short.goesS_ (some 15) Try.func51 #[.string x3_1, .string (⟨#[52, 50, 57, 52, 57, 54, 55, 50, 57, 54]⟩ : ByteArray)] ?_; (with_reducible refine (offcutref01_Mul.calls k1 x3_1 (⟨#[52, 50, 57, 52, 57, 54, 55, 50, 57, 54]⟩ : ByteArray) t634 _ A3.out).mono ?_); rintro e w6 ⟨rfl, hb⟩; refine ⟨_, rfl, ?_⟩; replace HB := Aside0.mk (below_step (by repeat (first | (with_reducible first | exact HB.out | apply below_alloc | apply pw_below_drewN | apply below_drew1) | exact HB.out)) hb); (try clear hb); have p635 : 0 ≤ (x4_1 : Int) := of_decide_eq_true (by first | (with_reducible assumption) | assumption); have q635 : x4_1 < (l0.length : Int) := of_decide_eq_true (by first | (with_reducible assumption) | assumption); obtain ⟨ad635, e635, hx635_0⟩ := Kd.at_int HR0.out x4_1 p635 q635; cases e635; replace hx635_0 := (HB.out.cell (World.block_lt_of_cell? w _ hx635_0)).trans hx635_0; replace p635 := eq_true p635; replace q635 := eq_true q635))
      go_loopg [5, 6] k1 (fun kq v5 v6 w' => ∃ (x5_2 : Int) (x6_2 : ByteArray), v5 = .int .u32 x5_2 ∧ v6 = .string x6_2 ∧ Aside0 (offcutref01_Of.l1 kq l0 t634 x4_1 x5_2 x6_2 = some r) ∧ Aside0 (kq ≤ k1) ∧ Aside0 (Below w.heap.size w w'))
      case atStart => exact ⟨(rd l0 x4_1), ((⟨#[]⟩ : ByteArray)), (by first | rfl | (simp; done) | (simp [*]; done)), (by first | rfl | (simp; done) | (simp [*]; done)), H', ⟨Nat.le_refl _⟩, ⟨by repeat (first | (with_reducible first | exact HB.out | apply below_alloc | apply pw_below_drewN | apply below_drew1) | exact HB.out)⟩⟩
      case round =>
       clear H'
       try clear c2
       try clear c2b0
       try clear p2
       try clear c4
       try clear c4b0
       try clear c5
       try clear c5b0
       try clear p6
       try clear q6
       try clear hx6
       try clear hx635_0
       try clear p635
       try clear q635
       obtain ⟨x5_2, x6_2, rfl, rfl, HA, HK2, HB⟩ := hrel
       cases gk with
       | zero => exact absurd HA.out (by simp [offcutref01_Of.l1])
       | succ k2 =>
        have H := HA.out
        clear HA
        simp only [offcutref01_Of.l1] at H
        by_cases c7 : x5_2 > 0
        ·rw [if_pos c7] at H
         have c7b0 : decide (0 < x5_2) = true := decide_eq_true c7
         clear c7
         replace H := Option.bind_eq_some_iff.mp H
         obtain ⟨t636, A80, H⟩ := H
         try dsimp only at H
         have A8 := Aside0.mk A80
         clear A80
         by_cases c9 : t636.size + x6_2.size ≤ 9223372036854775807
         ·rw [if_pos c9] at H
          have c9b0 := eq_true c9
          have c9b1 : decide (t636.size + x6_2.size ≤ 9223372036854775807) = true := decide_eq_true c9
          try have c9b2 : (9223372036854775807 < t636.size + x6_2.size) = False := eq_false (Nat.not_lt.2 c9)
          have H' := Aside0.mk H
          clear H
          go_wp2_with (first | ((with_reducible refine gate_callee (f := 80) rfl ?_); refine Short.goesS_ (some 25) Try.func80 #[.int .i64 (wrap64 (Int.tmod x5_2 10))] ?_; (with_reducible refine (offcutref01_sign.calls (wrap64 (Int.tmod x5_2 10)) t636 _ A8.out).mono ?_); rintro e w' ⟨rfl, ⟨nd, rfl⟩⟩; refine ⟨_, rfl, ?_⟩))
          go_roundg k2
          case measure => have := HK1.out; have := HK2.out; omega
          case rel => exact ⟨((Int.tdiv x5_2 10) % 4294967296), (t636 ++ x6_2), (by first | rfl | (simp; done) | (simp [*]; done)), (by first | rfl | (simp; done) | (simp [*]; done)), H', ⟨by have := HK1.out; have := HK2.out; omega⟩, ⟨by repeat (first | (with_reducible first | exact HB.out | apply below_alloc | apply pw_below_drewN | apply below_drew1) | exact HB.out)⟩⟩
         ·rw [if_neg c9] at H
          exact absurd H (by simp)
        ·rw [if_neg c7] at H
         have c7b0 : decide (0 < x5_2) = false := decide_eq_false c7
         clear c7
         replace H := Option.bind_eq_some_iff.mp H
         obtain ⟨t637, A100, H⟩ := H
         try dsimp only at H
         have A10 := Aside0.mk A100
         clear A100
         replace H := Option.bind_eq_some_iff.mp H
         obtain ⟨t638, A110, H⟩ := H
         try dsimp only at H
         have A11 := Aside0.mk A110
         clear A110
         have H' := Aside0.mk H
         clear H
         go_wp2_with (first | ((with_reducible refine gate_callee (f := 81) rfl ?_); refine Short.goesS_ (some 32) Try.func81 #[.string x6_2] ?_; (with_reducible refine (offcutref01_cut.calls k2 x6_2 t637 _ A10.out).mono ?_); rintro e w' ⟨rfl, ⟨nd, rfl⟩⟩; refine ⟨_, rfl, ?_⟩) | ((with_reducible refine gate_callee (f := 56) rfl ?_); refine Short.goesS_ (some 33) Try.func56 #[.string t634, .string t637] ?_; (with_reducible refine (offcutref01_Add.calls k2 t634 t637 t638 _ A11.out).mono ?_); rintro e w' ⟨rfl, ⟨nd, rfl⟩⟩; refine ⟨_, rfl, ?_⟩))
         go_roundg k2
         case measure => have := HK1.out; have := HK2.out; omega
         case rel => exact ⟨(t638), (wrap64 (x4_1 - 1)), (by first | rfl | (simp; done) | (simp [*]; done)), (by first | rfl | (simp; done) | (simp [*]; done)), H', ⟨by have := HK1.out; have := HK2.out; omega⟩, ⟨by repeat (first | (with_reducible first | exact HB.out | apply below_alloc | apply pw_below_drewN | apply below_drew1) | exact HB.out)⟩⟩
     ·rw [if_neg c5] at H
      exact absurd H (by simp)
    ·rw [if_neg c4] at H
     exact absurd H (by simp)
   ·rw [if_neg c2] at H
    have c2b0 : decide (0 ≤ x4_1) = false := decide_eq_false c2
    clear c2
    obtain rfl := Option.some.inj H
    go_wp2
    go_ret
    exact ⟨by rfl, by repeat (first | (with_reducible first | exact HB.out | apply below_alloc | apply pw_below_drewN | apply below_drew1) | exact HB.out)⟩

/-- One word's digits; then what follows. -/
theorem offcutref01_Of.ev_w {l : List Int} {r : ByteArray} {M u : Nat} {i : Int} (hM : (Dec.dc M).length < 1000000000) (hu : u < 10000000000)
  (next : Ev (fun k => offcutref01_Of.l0 k l (Dec.dec (M + u)) (wrap64 (i - 1))) r) (d : Nat) : ∀ (n : Nat) (out : List Nat), n < 10 ^ d → out.length + d ≤ 10 → Dec.Ds out → Dec.dv out + 10 ^ out.length * n = u →
  Ev (fun k => offcutref01_Of.l1 k l (Dec.dec M) i (n : Int) (Dec.tx out)) r := by
 have stop : ∀ out : List Nat, Dec.Ds out → Dec.dv out = u → Ev (fun k => offcutref01_Of.l1 k l (Dec.dec M) i ((0 : Nat) : Int) (Dec.tx out)) r := by
  intro out ho hv
  refine Ev.step (f := fun k => (offcutref01_cut.f k (Dec.tx out)).bind fun t235 => ((offcutref01_Add.f k (Dec.dec M) t235).bind fun t236 => (offcutref01_Of.l0 k l t236 (wrap64 (i - 1))))) (fun k => ?_) ?_
  ·rw [offcutref01_Of.l1, if_neg (by omega)]
  ·refine Ev.bind (offcutref01_cut.ev ho) ?_
   rw [hv]
   have := offcutref01_Add.ev (Dec.Ds_dc M) (Dec.Ds_dc u) hM (Nat.lt_of_le_of_lt (Dec.dc_length_le (k := 10) (by omega) (by omega)) (by omega))
   rw [Dec.dv_dc, Dec.dv_dc] at this
   exact Ev.bind this next
 induction d with
 | zero =>
  intro n out hn hl ho hv
  obtain rfl : n = 0 := by rw [Nat.pow_zero] at hn; omega
  exact stop out ho (by omega)
 | succ d ih =>
  intro n out hn hl ho hv
  rcases Nat.eq_zero_or_pos n with h0 | h0
  ·subst h0
   exact stop out ho (by omega)
  ·have hnu : n < 10 ^ 10 := Nat.lt_of_lt_of_le hn (Nat.pow_le_pow_right (by omega) (by omega))
   have hnv : n < 10000000000 := hnu
   refine Ev.step (f := fun k => offcutref01_Of.l1 k l (Dec.dec M) i ((n / 10 : Nat) : Int) (Dec.tx (out ++ [n % 10]))) (fun k => ?_) ?_
   ·rw [offcutref01_Of.l1, if_pos (by omega), Dec.tmod10, Dec.tdiv10, Dec.w64n _ (by omega), offcutref01_sign.sem _ (Nat.mod_lt _ (by omega)), Option.bind_some, Dec.tx_append, Dec.tx_size, Dec.tx_size, if_pos (by rw [List.length_singleton]; omega), show ((n / 10 : Nat) : Int) % 4294967296 = ((n / 10 : Nat) : Int) from by omega]
   ·refine ih (n / 10) (out ++ [n % 10]) (by rw [Nat.pow_succ] at hn; omega) (by rw [List.length_append, List.length_singleton]; omega) (ho.snoc (Nat.mod_lt _ (by omega))) ?_
    rw [Dec.dv_snoc, List.length_append, List.length_singleton, Nat.pow_succ, ← hv]
    have h3 : 10 ^ out.length * n = 10 ^ out.length * (n % 10 + 10 * (n / 10)) := by congr 1; omega
    rw [Nat.mul_add, ← Nat.mul_assoc] at h3
    omega
theorem offcutref01_Of.ev_l {l : List Int} (hW : Num.Ws l) (hl : l.length < 10000000) : ∀ i, i ≤ l.length → Ev (fun k => offcutref01_Of.l0 k l (Dec.dec (Num.nv (l.drop i))) ((i : Int) - 1)) (Dec.dec (Num.nv l)) := by
 intro i
 induction i with
 | zero =>
  intro hi
  refine Ev.step (f := fun _ => some (Dec.dec (Num.nv (l.drop 0)))) (fun k => ?_) ?_
  ·rw [offcutref01_Of.l0, if_neg (by omega)]
  ·rw [List.drop_zero]
   exact Ev.now _
 | succ i ih =>
  intro hi
  have hb := Num.nv_lt (hW.drop (i + 1))
  rw [List.length_drop] at hb
  have hb2 : Num.nv (l.drop (i + 1)) < 2 ^ (32 * l.length) := Nat.lt_of_lt_of_le hb (Nat.pow_le_pow_right (by omega) (by omega))
  have hl1 := Dec.dc_len32 (by omega) hb2
  have hb3 : Num.nv (l.drop (i + 1)) * 4294967296 < 2 ^ (32 * (l.length + 1)) := by
   rw [Num.pow_succ32]
   exact Nat.mul_lt_mul_of_pos_right hb2 (by omega)
  have hl2 := Dec.dc_len32 (by omega) hb3
  have hw := hW.getD i
  obtain ⟨u, hu⟩ : ∃ u : Nat, (u : Int) = l.getD i 0 := ⟨(l.getD i 0).toNat, by omega⟩
  have hd : Num.nv (l.drop i) = Num.nv (l.drop (i + 1)) * 4294967296 + u := by
   rw [List.drop_eq_getElem_cons (by omega), Num.nv]
   have : l[i] = (u : Int) := by rw [hu, List.getD_eq_getElem?_getD, List.getElem?_eq_getElem (by omega)]; rfl
   rw [this, Int.toNat_natCast]
   omega
  have hm := offcutref01_Mul.ev (Dec.Ds_dc (Num.nv (l.drop (i + 1)))) Dec.Ds_2_32 (by omega) (by decide)
  rw [Dec.dv_dc, show Dec.dv [6, 9, 2, 7, 6, 9, 4, 9, 2, 4] = 4294967296 from rfl] at hm
  refine Ev.step (f := fun k => (offcutref01_Mul.f k (Dec.tx (Dec.dc (Num.nv (l.drop (i + 1))))) (Dec.tx [6, 9, 2, 7, 6, 9, 4, 9, 2, 4])).bind fun t232 => (offcutref01_Of.l1 k l t232 (i : Int) (u : Int) (Dec.tx []))) (fun k => ?_) (Ev.bind hm ?_)
  ·rw [offcutref01_Of.l0, show (((i + 1 : Nat) : Int) - 1) = (i : Int) from by omega, if_pos (by omega)]
   refine congrArg _ (funext fun t232 => ?_)
   rw [if_pos (by omega), if_pos (by omega), show rd l (i : Int) = (u : Int) from by rw [hu]; simp [rd]]
   rfl
  ·refine offcutref01_Of.ev_w (u := u) (by omega) (by omega) ?_ 10 u [] (by omega) (by decide) Dec.Ds.nil (by rw [List.length_nil, Dec.dv]; omega)
   rw [Dec.w64 (by omega) (by omega), ← hd]
   exact ih (by omega)
theorem offcutref01_Of.ev {l : List Int} (hW : Num.Ws l) (hl : l.length < 10000000) : Ev (fun k => offcutref01_Of.f k l) (Dec.dec (Num.nv l)) := by
 have := offcutref01_Of.ev_l hW hl l.length (Nat.le_refl _)
 rw [List.drop_length, Num.nv, Dec.dec_zero] at this
 refine Ev.congr (fun k => ?_) this
 unfold offcutref01_Of.f
 rw [Dec.w64 (by omega) (by omega)]
set_option synthInstance.checkSynthOrder false in
open Lin in
instance offcutref01_Of.t {k : Nat} {l0 : List Int} {r : ByteArray} [h : Ans (offcutref01_Of.f k l0) r] : Tl Try.prog 47 [.one (.row l0)] (.el (.one (.val (.string r)))) := ⟨Tells.of Try.func47 fun out w vs ho hl hv => by
 obtain ⟨u0, rfl, h0⟩ := args1 hl hv
 obtain ⟨A0, c0, rfl, hc0, hr0, hb0⟩ := h0
 refine (offcutref01_Of.calls k A0 c0 l0 _ w hr0 hc0 h.out).mono ?_
 rintro e w' ⟨rfl, hb⟩
 exact ⟨_, rfl, ⟨rfl, rfl⟩, hb⟩⟩
def offcutlaw03_Of.f (k : Nat) (a0_0 : Bool) (l0_1 : List Int) (l0_2 : List Int) : Option (ByteArray × ByteArray) := (offcutref01_Of.f k l0_2).bind fun t641 => (if t641.toList = ([48] : List UInt8) then ((offcutref01_Of.f k l0_1).bind fun t642 => ((offcutref02_Made.f a0_0 t642).bind fun t643 => ((offcutref03_Low.f k t643 (⟨#[49]⟩ : ByteArray)).bind fun bt644 => (some (bt644.1, bt644.2))))) else ((offcutref01_Of.f k l0_1).bind fun t646 => ((offcutref02_Made.f a0_0 t646).bind fun t647 => ((offcutref03_Low.f k t647 t641).bind fun bt648 => (some (bt648.1, bt648.2))))))
theorem offcutlaw03_Of.ev {m : Bool} {l1 l2 : List Int} {r : Rat} {K : Nat} (h : Qn.Is m l1 l2 r K) (hK1 : 1 ≤ K) (hK : K < 300000) : Ev (fun k => offcutlaw03_Of.f k m l1 l2) (Zn.tz r.num, Dec.dec r.den) := by
 have l1K := h.num.len
 have l2K := h.len
 have O1 := offcutref01_Of.ev h.num.ws (by omega)
 have O2 := offcutref01_Of.ev h.ws (by omega)
 have ln := Dec.dc_len32 hK1 (Num.nv_lt_of h.num.ws l1K)
 have Md := offcutref02_Made.sem m (Num.nv l1) (by omega)
 have L := offcutref03_Low.ev h.num.lt (Qn.dn_lt h.ws h.len hK1) (Qn.dn_ne _) hK1 (by omega)
 rw [h.val] at L
 unfold offcutlaw03_Of.f
 refine Ev.bind O2 ?_
 by_cases h0 : Num.nv l2 = 0
 ·have e : Qn.dn (Num.nv l2) = 1 := if_pos h0
  rw [e, Dec.dec_one] at L
  exact Dec.yes ((Dec.dec_is0 _).2 h0) (Ev.bind O1 (Dec.val (fun _ => Md) (Ev.bind L (Ev.now _))))
 ·rw [Qn.dn_self h0] at L
  exact Dec.no (fun e => h0 ((Dec.dec_is0 _).1 e)) (Ev.bind O1 (Dec.val (fun _ => Md) (Ev.bind L (Ev.now _))))
set_option synthInstance.checkSynthOrder false in
open Lin in
set_option maxHeartbeats 4000000 in
instance offcutlaw03_Of.t {k : Nat} {a0_0 : Bool} {l0_1 : List Int} {l0_2 : List Int} {r : ByteArray × ByteArray} [h : Ans (offcutlaw03_Of.f k a0_0 l0_1 l0_2) r] : Tl Try.prog 13 [.agg [.val (.bool a0_0), .row l0_1, .row l0_2]] (.el (.agg [.val (.string r.1), .val (.string r.2)])) := by
 have h := h.out
 unfold offcutlaw03_Of.f at h
 repeat' (first | (replace h := Lin.bndK h) | (replace h := Lin.bnd h; obtain ⟨_, _, h⟩ := h) | split at h | cases h)
 all_goals exact ⟨Tells.go Try.func13 Try.ntmps13⟩
theorem eqA34 (d : Nat) (w : World) (x0 y0 : ByteArray) (x1 y1 : ByteArray) :
    (Op.equalIn (d + 2) 34 (.agg #[.string x0, .string x1]) (.agg #[.string y0, .string y1])).run Try.prog w = .ok (x0.toList == y0.toList && (x1.toList == y1.toList)) w := by
  refine eqA_of Try.underlying34 (by kernel_rfl) ?_
  refine eqf_cons (by rfl) (by go_simp; rfl) (by go_simp; rfl) (by go_simp) ?_
  exact eqf_last (by rfl) (by go_simp; rfl) (by go_simp; rfl) (by go_simp)
section
attribute [local go_sem high] eqA34
def offcutlaw03_Is.f (k : Nat) (a0_0 : Bool) (l0_1 : List Int) (l0_2 : List Int) (a1_0 : ByteArray) (a1_1 : ByteArray) : Option (Bool) := if (l0_2.length : Int) > 0 then ((rat_Right.f k a0_0 l0_1 l0_2).bind fun t652 => (if t652 = true then ((offcutlaw03_Of.f k a0_0 l0_1 l0_2).bind fun bt653 => (some (bt653.1.toList == a1_0.toList && (bt653.2.toList == a1_1.toList)))) else (some false))) else (some false)
theorem offcutlaw03_Is.ev {r s : Rat} {K : Nat} (h : Qn.Sm r K) (hK1 : 1 ≤ K) (hK : K < 300000) : Ev (fun k => offcutlaw03_Is.f k (Qn.qd r).1 (Qn.qd r).2.1 (Qn.qd r).2.2 (Zn.tz s.num) (Dec.dec s.den)) (decide (r = s)) := by
 have hp := (Zn.nd_len_pos r.den).2 r.den_nz
 unfold offcutlaw03_Is.f
 refine Dec.yes (show ((Num.nd r.den).length : Int) > 0 by omega) (Ev.bind (rat_Right.qd h hK) (Dec.yes rfl (Ev.bind (offcutlaw03_Of.ev (Qn.Is.qd h) hK1 hK) ?_)))
 have e : ((Zn.tz r.num).toList == (Zn.tz s.num).toList && ((Dec.dec r.den).toList == (Dec.dec s.den).toList)) = decide (r = s) := by
  rw [Zn.tz_beq, Dec.dec_beq, ← Bool.decide_and]
  exact decide_eq_decide.2 ⟨fun e => Rat.ext e.1 e.2, fun e => by rw [e]; exact ⟨rfl, rfl⟩⟩
 rw [← e]
 exact Ev.now _
set_option synthInstance.checkSynthOrder false in
open Lin in
set_option maxHeartbeats 4000000 in
instance offcutlaw03_Is.t {k : Nat} {a0_0 : Bool} {l0_1 : List Int} {l0_2 : List Int} {a1_0 : ByteArray} {a1_1 : ByteArray} {r : Bool} [h : Ans (offcutlaw03_Is.f k a0_0 l0_1 l0_2 a1_0 a1_1) r] : Tl Try.prog 15 [.agg [.val (.bool a0_0), .row l0_1, .row l0_2], .agg [.val (.string a1_0), .val (.string a1_1)]] (.el (.one (.val (.bool r)))) := by
 have h := h.out
 unfold offcutlaw03_Is.f at h
 repeat' (first | (replace h := Lin.bndK h) | (replace h := Lin.bnd h; obtain ⟨_, _, h⟩ := h) | split at h | cases h)
 all_goals exact ⟨Tells.go Try.func15 Try.ntmps15⟩
end
def offcutref02_size.f (a0 : ByteArray) : Option (ByteArray) := (offcutref02_Below.f a0).bind fun t655 => (if t655 = true then (if 1 ≤ (a0.size : Int) then (some (a0.extract 1 a0.size)) else (none)) else (some a0))
set_option maxHeartbeats 8000000 in
set_option maxRecDepth 100000 in
theorem offcutref02_size.calls (a0 : ByteArray) (r : ByteArray) (w : World) (h : offcutref02_size.f a0 = some r) :
  Calls Try.prog 54 #[.string a0] w fun e w' => e = .returned (.string r) ∧ Drawn0 w w' := by
 have H : ((offcutref02_Below.f a0).bind fun t655 => (if t655 = true then (if 1 ≤ (a0.size : Int) then (some (a0.extract 1 a0.size)) else (none)) else (some a0))) = some r := h
 clear h
 replace H := Option.bind_eq_some_iff.mp H
 obtain ⟨t655, A20, H⟩ := H
 try dsimp only at H
 have A2 := Aside0.mk A20
 clear A20
 by_cases c3 : t655 = true
 ·subst c3
  have H1 : (if 1 ≤ (a0.size : Int) then (some (a0.extract 1 a0.size)) else (none)) = some r := by rw [if_pos rfl] at H; exact H
  clear H
  have H := H1
  clear H1
  by_cases c4 : 1 ≤ (a0.size : Int)
  ·rw [if_pos c4] at H
   have c4b0 := eq_true c4
   have c4b1 : decide (1 ≤ (a0.size : Int)) = true := decide_eq_true c4
   clear c4
   obtain rfl := Option.some.inj H
   go_enter Try.func54, Try.ntmps54
   go_wp2_with (first | ((with_reducible refine gate_callee (f := 52) rfl ?_); refine Short.goesS_ (some 4) Try.func52 #[.string a0] ?_; (with_reducible refine (offcutref02_Below.calls a0 true _ A2.out).mono ?_); rintro e w' ⟨rfl, ⟨nd, rfl⟩⟩; refine ⟨_, rfl, ?_⟩))
   go_ret
   exact ⟨by first | rfl | (simp; done) | (simp [*]; done), by repeat (first | exact Drawn0.refl _ | apply Drawn0.step)⟩
  ·rw [if_neg c4] at H
   exact absurd H (by simp)
 ·replace c3 := Bool.eq_false_iff.mpr c3
  subst c3
  have H1 : (some a0) = some r := by rw [if_neg (show ¬ (false = true) by decide)] at H; exact H
  clear H
  have H := H1
  clear H1
  obtain rfl := Option.some.inj H
  go_enter Try.func54, Try.ntmps54
  go_wp2_with (first | ((with_reducible refine gate_callee (f := 52) rfl ?_); refine Short.goesS_ (some 4) Try.func52 #[.string a0] ?_; (with_reducible refine (offcutref02_Below.calls a0 false _ A2.out).mono ?_); rintro e w' ⟨rfl, ⟨nd, rfl⟩⟩; refine ⟨_, rfl, ?_⟩))
  go_ret
  exact ⟨by first | rfl | (simp; done) | (simp [*]; done), by repeat (first | exact Drawn0.refl _ | apply Drawn0.step)⟩

theorem offcutref02_size.sem (z : Int) : offcutref02_size.f (Zn.tz z) = some (Dec.dec z.natAbs) := by
 unfold offcutref02_size.f
 rw [offcutref02_Below.sem, Option.bind_some]
 by_cases h : z < 0
 ·have := Zn.tz_size_pos z
  rw [if_pos (decide_eq_true h), if_pos (by omega), Zn.tz_neg h, Zn.minus_tail]
 ·rw [if_neg (by rw [decide_eq_false h]; decide), Zn.tz_pos h]
set_option synthInstance.checkSynthOrder false in
open Lin in
instance offcutref02_size.t {a0 : ByteArray} {r : ByteArray} [h : Ans (offcutref02_size.f a0) r] : Tl Try.prog 54 [.one (.val (.string a0))] (.el (.one (.val (.string r)))) := ⟨Tells.of Try.func54 fun out w vs ho hl hv => by
 obtain ⟨u0, rfl, h0⟩ := args1 hl hv
 obtain rfl := h0.1
 refine (offcutref02_size.calls a0 _ w h.out).mono ?_
 rintro e w' ⟨rfl, hb⟩
 exact ⟨_, rfl, ⟨rfl, rfl⟩, below_of_drawn hb⟩⟩
def offcutref02_Mul.f (k : Nat) (a0 : ByteArray) (a1 : ByteArray) : Option (ByteArray) := (offcutref02_Below.f a0).bind fun t656 => ((offcutref02_Below.f a1).bind fun t657 => ((offcutref02_size.f a0).bind fun t658 => ((offcutref02_size.f a1).bind fun t659 => ((offcutref01_Mul.f k t658 t659).bind fun t660 => ((offcutref02_Made.f (t656 != t657) t660).bind fun t661 => (some t661))))))
theorem offcutref02_Mul.ev {a b : Int} {K J : Nat} (ha : a.natAbs < 2 ^ (32 * K)) (hb : b.natAbs < 2 ^ (32 * J)) (hK : K + J < 1000000) : Ev (fun k => offcutref02_Mul.f k (Zn.tz a) (Zn.tz b)) (Zn.tz (a * b)) := by
 have la := Dec.dc_len32 (n := a.natAbs) (k := K + 1) (by omega) (Num.le_pow ha (by omega))
 have lb := Dec.dc_len32 (n := b.natAbs) (k := J + 1) (by omega) (Num.le_pow hb (by omega))
 have ls := Dec.dc_len32 (n := a.natAbs * b.natAbs) (k := K + J + 1) (by omega) (Num.le_pow (Num.mul_lt ha hb) (by omega))
 have M := offcutref01_Mul.ev (Dec.Ds_dc a.natAbs) (Dec.Ds_dc b.natAbs) (by omega) (by omega)
 rw [Dec.dv_dc, Dec.dv_dc] at M
 have d : Zn.zv (decide (a < 0) != decide (b < 0)) (a.natAbs * b.natAbs) = a * b := by
  by_cases h0 : a.natAbs * b.natAbs = 0
  ·rw [h0, Zn.zv_zero]
   rw [← Int.natAbs_mul] at h0
   omega
  ·have a0 : a.natAbs ≠ 0 := fun e => h0 (by rw [e, Nat.zero_mul])
   have b0 : b.natAbs ≠ 0 := fun e => h0 (by rw [e, Nat.mul_zero])
   have e : (decide (a < 0) != decide (b < 0)) = decide (a * b < 0) := by
    by_cases ha0 : a < 0
    ·by_cases hb0 : b < 0
     ·have := Int.mul_pos_of_neg_of_neg ha0 hb0
      rw [decide_eq_true ha0, decide_eq_true hb0, decide_eq_false (by omega)]
      rfl
     ·have := Int.mul_neg_of_neg_of_pos ha0 (show 0 < b by omega)
      rw [decide_eq_true ha0, decide_eq_false hb0, decide_eq_true this]
      rfl
    ·by_cases hb0 : b < 0
     ·have := Int.mul_neg_of_pos_of_neg (show 0 < a by omega) hb0
      rw [decide_eq_false ha0, decide_eq_true hb0, decide_eq_true this]
      rfl
     ·have := Int.mul_pos (show 0 < a by omega) (show 0 < b by omega)
      rw [decide_eq_false ha0, decide_eq_false hb0, decide_eq_false (by omega)]
      rfl
   rw [e, Zn.mul_sign]
 have R := offcutref02_Made.sem (decide (a < 0) != decide (b < 0)) (a.natAbs * b.natAbs) (by omega)
 rw [d] at R
 unfold offcutref02_Mul.f
 exact Dec.val (fun _ => offcutref02_Below.sem a) (Dec.val (fun _ => offcutref02_Below.sem b) (Dec.val (fun _ => offcutref02_size.sem a) (Dec.val (fun _ => offcutref02_size.sem b) (Ev.bind M (Dec.val (fun _ => R) (Ev.now _))))))
set_option synthInstance.checkSynthOrder false in
open Lin in
set_option maxHeartbeats 4000000 in
instance offcutref02_Mul.t {k : Nat} {a0 : ByteArray} {a1 : ByteArray} {r : ByteArray} [h : Ans (offcutref02_Mul.f k a0 a1) r] : Tl Try.prog 50 [.one (.val (.string a0)), .one (.val (.string a1))] (.el (.one (.val (.string r)))) := by
 have h := h.out
 unfold offcutref02_Mul.f at h
 repeat' (first | (replace h := Lin.bndK h) | (replace h := Lin.bnd h; obtain ⟨_, _, h⟩ := h) | split at h | cases h)
 all_goals exact ⟨Tells.go Try.func50 Try.ntmps50⟩
def offcutref03_Mul.f (k : Nat) (a0_0 : ByteArray) (a0_1 : ByteArray) (a1_0 : ByteArray) (a1_1 : ByteArray) : Option (ByteArray × ByteArray) := (offcutref02_Mul.f k a0_0 a1_0).bind fun t665 => ((offcutref01_Mul.f k a0_1 a1_1).bind fun t666 => ((offcutref03_Low.f k t665 t666).bind fun bt667 => (some (bt667.1, bt667.2))))
theorem offcutref03_Mul.ev {a b : Rat} {K J : Nat} (ha : Qn.Sm a K) (hb : Qn.Sm b J) (hK1 : 1 ≤ K) (hK : K + J < 300000) : Ev (fun k => offcutref03_Mul.f k (Zn.tz a.num) (Dec.dec a.den) (Zn.tz b.num) (Dec.dec b.den)) (Zn.tz (a * b).num, Dec.dec (a * b).den) := by
 have la := Dec.dc_len32 hK1 ha.den
 have lb := Dec.dc_len32 (k := J + 1) (by omega) (Num.le_pow hb.den (by omega))
 have P := offcutref01_Mul.ev (Dec.Ds_dc a.den) (Dec.Ds_dc b.den) (by omega) (by omega)
 rw [Dec.dv_dc, Dec.dv_dc] at P
 have L := offcutref03_Low.ev (Zn.abs_mul ha.num hb.num) (Num.mul_lt ha.den hb.den) (Nat.mul_ne_zero a.den_nz b.den_nz) (by omega) (by omega)
 rw [← Rat.mul_def'] at L
 unfold offcutref03_Mul.f
 exact Ev.bind (offcutref02_Mul.ev ha.num hb.num (by omega)) (Ev.bind P (Ev.bind L (Ev.now _)))
set_option synthInstance.checkSynthOrder false in
open Lin in
set_option maxHeartbeats 4000000 in
instance offcutref03_Mul.t {k : Nat} {a0_0 : ByteArray} {a0_1 : ByteArray} {a1_0 : ByteArray} {a1_1 : ByteArray} {r : ByteArray × ByteArray} [h : Ans (offcutref03_Mul.f k a0_0 a0_1 a1_0 a1_1) r] : Tl Try.prog 16 [.agg [.val (.string a0_0), .val (.string a0_1)], .agg [.val (.string a1_0), .val (.string a1_1)]] (.el (.agg [.val (.string r.1), .val (.string r.2)])) := by
 have h := h.out
 unfold offcutref03_Mul.f at h
 repeat' (first | (replace h := Lin.bndK h) | (replace h := Lin.bnd h; obtain ⟨_, _, h⟩ := h) | split at h | cases h)
 all_goals exact ⟨Tells.go Try.func16 Try.ntmps16⟩
def rat_over.f (k : Nat) (a0_0 : Bool) (l0_1 : List Int) (l0_2 : List Int) (a1_0 : Bool) (l1_1 : List Int) (l1_2 : List Int) : Option (Bool × List Int) := (rat_den.f k a1_0 l1_1 l1_2).bind fun t804 => ((whole_Make.f k false t804).bind fun bt807 => ((whole_Mul.f k a0_0 l0_1 bt807.1 bt807.2).bind fun bt811 => (some (bt811.1, bt811.2))))
theorem rat_over.ev {m m' : Bool} {l1 l2 k1 k2 : List Int} {a b : Rat} {K J : Nat} (ha : Qn.Is m l1 l2 a K) (hb : Qn.Is m' k1 k2 b J) (hJ1 : 1 ≤ J) (hK : K + J < 400000) : Ev (fun k => rat_over.f k m l1 l2 m' k1 k2) (Zn.zd (Zn.zv m (Num.nv l1) * ((Qn.dn (Num.nv k2) : Nat) : Int))) := by
 have lb := hb.len
 have Lb := Qn.len_dl lb hJ1
 have I : Zn.Is false (Qn.dl k2) ((Qn.dn (Num.nv k2) : Nat) : Int) J := ⟨Qn.ws_dl hb.ws, Lb, by rw [Qn.nv_dl]; rfl⟩
 unfold rat_over.f
 exact Ev.bind (rat_den.ev hb.ws (by omega)) (Ev.bind (whole_Make.ev I (by omega)) (Ev.bind (whole_Mul.ev ha.num (Zn.Is.zd I.lt) (by omega)) (Ev.now _)))
set_option synthInstance.checkSynthOrder false in
open Lin in
set_option maxHeartbeats 4000000 in
instance rat_over.t {k : Nat} {a0_0 : Bool} {l0_1 : List Int} {l0_2 : List Int} {a1_0 : Bool} {l1_1 : List Int} {l1_2 : List Int} {r : Bool × List Int} [h : Ans (rat_over.f k a0_0 l0_1 l0_2 a1_0 l1_1 l1_2) r] : Tl Try.prog 65 [.agg [.val (.bool a0_0), .row l0_1, .row l0_2], .agg [.val (.bool a1_0), .row l1_1, .row l1_2]] (.el (.agg [.val (.bool r.1), .row r.2])) := by
 have h := h.out
 unfold rat_over.f at h
 repeat' (first | (replace h := Lin.bndK h) | (replace h := Lin.bnd h; obtain ⟨_, _, h⟩ := h) | split at h | cases h)
 all_goals exact ⟨Tells.go Try.func65 Try.ntmps65⟩
def rat_Add.f (k : Nat) (a0_0 : Bool) (l0_1 : List Int) (l0_2 : List Int) (a1_0 : Bool) (l1_1 : List Int) (l1_2 : List Int) : Option (Bool × List Int × List Int) := (rat_over.f k a0_0 l0_1 l0_2 a1_0 l1_1 l1_2).bind fun bt818 => ((rat_over.f k a1_0 l1_1 l1_2 a0_0 l0_1 l0_2).bind fun bt822 => ((whole_Add.f k bt818.1 bt818.2 bt822.1 bt822.2).bind fun bt826 => ((rat_den.f k a0_0 l0_1 l0_2).bind fun t830 => ((rat_den.f k a1_0 l1_1 l1_2).bind fun t833 => ((nat_Mul.f k t830 t833).bind fun t836 => ((rat_Make.f k bt826.1 bt826.2 t836).bind fun bt839 => (some (bt839.1, bt839.2.1, bt839.2.2))))))))
theorem rat_Add.ev {m m' : Bool} {l1 l2 k1 k2 : List Int} {a b : Rat} {K J : Nat} (ha : Qn.Is m l1 l2 a K) (hb : Qn.Is m' k1 k2 b J) (hK1 : 1 ≤ K) (hJ1 : 1 ≤ J) (hK : K + J < 300000) : Ev (fun k => rat_Add.f k m l1 l2 m' k1 k2) (Qn.qd (a + b)) := by
 have da := Qn.dn_lt ha.ws ha.len hK1
 have db := Qn.dn_lt hb.ws hb.len hJ1
 have la := ha.len
 have lb := hb.len
 have La := Qn.len_dl la hK1
 have Lb := Qn.len_dl lb hJ1
 have P := nat_Mul.ev (Num.okw_of (l := Qn.dl l2) (by omega) (Qn.ws_dl ha.ws)) (Num.okw_of (l := Qn.dl k2) (by omega) (Qn.ws_dl hb.ws))
 rw [Qn.nv_dl, Qn.nv_dl] at P
 have x1 := Zn.abs_mul ha.num.lt (Qn.cast_abs db)
 have x2 := Zn.abs_mul hb.num.lt (Qn.cast_abs da)
 rw [Nat.add_comm J K] at x2
 have A := whole_Add.ev (Zn.Is.zd x1) (Zn.Is.zd x2) (by omega)
 have M := rat_Make.ev (Zn.Is.zd (Zn.abs_add x1 x2)) (Num.Ws_nd (Qn.dn (Num.nv l2) * Qn.dn (Num.nv k2))) (Num.nd_length_le (Num.le_pow (Num.mul_lt da db) (by omega))) (by omega) (by omega)
 rw [Num.nv_nd, Qn.dn_self (Nat.mul_ne_zero (Qn.dn_ne _) (Qn.dn_ne _)), ← Rat.mkRat_add_mkRat _ _ (Qn.dn_ne _) (Qn.dn_ne _), ha.val, hb.val] at M
 unfold rat_Add.f
 exact Ev.bind (rat_over.ev ha hb hJ1 (by omega)) (Ev.bind (rat_over.ev hb ha hK1 (by omega)) (Ev.bind A (Ev.bind (rat_den.ev ha.ws (by omega)) (Ev.bind (rat_den.ev hb.ws (by omega)) (Ev.bind P (Ev.bind M (Ev.now _)))))))
set_option synthInstance.checkSynthOrder false in
open Lin in
set_option maxHeartbeats 4000000 in
instance rat_Add.t {k : Nat} {a0_0 : Bool} {l0_1 : List Int} {l0_2 : List Int} {a1_0 : Bool} {l1_1 : List Int} {l1_2 : List Int} {r : Bool × List Int × List Int} [h : Ans (rat_Add.f k a0_0 l0_1 l0_2 a1_0 l1_1 l1_2) r] : Tl Try.prog 28 [.agg [.val (.bool a0_0), .row l0_1, .row l0_2], .agg [.val (.bool a1_0), .row l1_1, .row l1_2]] (.el (.agg [.val (.bool r.1), .row r.2.1, .row r.2.2])) := by
 have h := h.out
 unfold rat_Add.f at h
 repeat' (first | (replace h := Lin.bndK h) | (replace h := Lin.bnd h; obtain ⟨_, _, h⟩ := h) | split at h | cases h)
 all_goals exact ⟨Tells.go Try.func28 Try.ntmps28⟩
def offcutref02_Add.f (k : Nat) (a0 : ByteArray) (a1 : ByteArray) : Option (ByteArray) := (offcutref02_Below.f a0).bind fun t700 => ((offcutref02_Below.f a1).bind fun t701 => (if (t700 == t701) = true then ((offcutref02_Below.f a0).bind fun t702 => ((offcutref02_size.f a0).bind fun t703 => ((offcutref02_size.f a1).bind fun t704 => ((offcutref01_Add.f k t703 t704).bind fun t705 => ((offcutref02_Made.f t702 t705).bind fun t706 => (some t706)))))) else ((offcutref02_size.f a0).bind fun t707 => ((offcutref02_size.f a1).bind fun t708 => ((offcutref01_Less.f t707 t708).bind fun t709 => (if t709 = true then ((offcutref02_Below.f a1).bind fun t710 => ((offcutref02_size.f a1).bind fun t711 => ((offcutref02_size.f a0).bind fun t712 => ((offcutref01_Sub.f k t711 t712).bind fun t713 => ((offcutref02_Made.f t710 t713).bind fun t714 => (some t714)))))) else ((offcutref02_Below.f a0).bind fun t715 => ((offcutref02_size.f a0).bind fun t716 => ((offcutref02_size.f a1).bind fun t717 => ((offcutref01_Sub.f k t716 t717).bind fun t718 => ((offcutref02_Made.f t715 t718).bind fun t719 => (some t719))))))))))))
theorem offcutref02_Add.ev {a b : Int} {K : Nat} (ha : a.natAbs < 2 ^ (32 * K)) (hb : b.natAbs < 2 ^ (32 * K)) (hK : K < 1000000) : Ev (fun k => offcutref02_Add.f k (Zn.tz a) (Zn.tz b)) (Zn.tz (a + b)) := by
 have la := Dec.dc_len32 (n := a.natAbs) (k := K + 1) (by omega) (Num.le_pow ha (by omega))
 have lb := Dec.dc_len32 (n := b.natAbs) (k := K + 1) (by omega) (Num.le_pow hb (by omega))
 have ls := Dec.dc_len32 (n := a.natAbs + b.natAbs) (k := K + 1) (by omega) (Num.add_lt ha hb)
 have A := offcutref01_Add.ev (Dec.Ds_dc a.natAbs) (Dec.Ds_dc b.natAbs) (by omega) (by omega)
 rw [Dec.dv_dc, Dec.dv_dc] at A
 have Ba := offcutref02_Below.sem a
 have Bb := offcutref02_Below.sem b
 have Sa := offcutref02_size.sem a
 have Sb := offcutref02_size.sem b
 have L := offcutref01_Less.sem a.natAbs b.natAbs
 unfold offcutref02_Add.f
 refine Dec.val (fun _ => Ba) (Dec.val (fun _ => Bb) ?_)
 by_cases h : a < 0 ↔ b < 0
 ·have M := offcutref02_Made.sem (decide (a < 0)) (a.natAbs + b.natAbs) (by omega)
  rw [Zn.add_same h] at M
  exact Dec.yes (by rw [beq_iff_eq]; exact decide_eq_decide.2 h) (Dec.val (fun _ => Ba) (Dec.val (fun _ => Sa) (Dec.val (fun _ => Sb) (Ev.bind A (Dec.val (fun _ => M) (Ev.now _))))))
 ·refine Dec.no (by rw [beq_iff_eq]; exact fun e => h (decide_eq_decide.1 e)) (Dec.val (fun _ => Sa) (Dec.val (fun _ => Sb) (Dec.val (fun _ => L) ?_)))
  by_cases hl : a.natAbs < b.natAbs
  ·have S := offcutref01_Sub.ev_dec (m := b.natAbs) (n := a.natAbs) (by omega) (by omega)
   have ld := Dec.dc_len32 (n := b.natAbs - a.natAbs) (k := K + 1) (by omega) (Num.le_pow (show b.natAbs - a.natAbs < 2 ^ (32 * K) by omega) (by omega))
   have M := offcutref02_Made.sem (decide (b < 0)) (b.natAbs - a.natAbs) (by omega)
   rw [Zn.add_right h hl] at M
   exact Dec.yes (decide_eq_true hl) (Dec.val (fun _ => Bb) (Dec.val (fun _ => Sb) (Dec.val (fun _ => Sa) (Ev.bind S (Dec.val (fun _ => M) (Ev.now _))))))
  ·have S := offcutref01_Sub.ev_dec (m := a.natAbs) (n := b.natAbs) (by omega) (by omega)
   have ld := Dec.dc_len32 (n := a.natAbs - b.natAbs) (k := K + 1) (by omega) (Num.le_pow (show a.natAbs - b.natAbs < 2 ^ (32 * K) by omega) (by omega))
   have M := offcutref02_Made.sem (decide (a < 0)) (a.natAbs - b.natAbs) (by omega)
   rw [Zn.add_left h (by omega)] at M
   exact Dec.no (by rw [decide_eq_false hl]; decide) (Dec.val (fun _ => Ba) (Dec.val (fun _ => Sa) (Dec.val (fun _ => Sb) (Ev.bind S (Dec.val (fun _ => M) (Ev.now _))))))
set_option synthInstance.checkSynthOrder false in
open Lin in
set_option maxHeartbeats 4000000 in
instance offcutref02_Add.t {k : Nat} {a0 : ByteArray} {a1 : ByteArray} {r : ByteArray} [h : Ans (offcutref02_Add.f k a0 a1) r] : Tl Try.prog 19 [.one (.val (.string a0)), .one (.val (.string a1))] (.el (.one (.val (.string r)))) := by
 have h := h.out
 unfold offcutref02_Add.f at h
 repeat' (first | (replace h := Lin.bndK h) | (replace h := Lin.bnd h; obtain ⟨_, _, h⟩ := h) | split at h | cases h)
 all_goals exact ⟨Tells.go Try.func19 Try.ntmps19⟩
def offcutref03_Add.f (k : Nat) (a0_0 : ByteArray) (a0_1 : ByteArray) (a1_0 : ByteArray) (a1_1 : ByteArray) : Option (ByteArray × ByteArray) := (offcutref02_Mul.f k a0_0 a1_1).bind fun t849 => ((offcutref02_Mul.f k a1_0 a0_1).bind fun t850 => ((offcutref02_Add.f k t849 t850).bind fun t851 => ((offcutref01_Mul.f k a0_1 a1_1).bind fun t852 => ((offcutref03_Low.f k t851 t852).bind fun bt853 => (some (bt853.1, bt853.2))))))
theorem offcutref03_Add.ev {a b : Rat} {K J : Nat} (ha : Qn.Sm a K) (hb : Qn.Sm b J) (hK1 : 1 ≤ K) (hJ1 : 1 ≤ J) (hK : K + J < 200000) : Ev (fun k => offcutref03_Add.f k (Zn.tz a.num) (Dec.dec a.den) (Zn.tz b.num) (Dec.dec b.den)) (Zn.tz (a + b).num, Dec.dec (a + b).den) := by
 have la := Dec.dc_len32 hK1 ha.den
 have lb := Dec.dc_len32 hJ1 hb.den
 have P := offcutref01_Mul.ev (Dec.Ds_dc a.den) (Dec.Ds_dc b.den) (by omega) (by omega)
 rw [Dec.dv_dc, Dec.dv_dc] at P
 have x1 := Zn.abs_mul ha.num (Qn.cast_abs hb.den)
 have x2 := Zn.abs_mul hb.num (Qn.cast_abs ha.den)
 have M1 := offcutref02_Mul.ev ha.num (Qn.cast_abs hb.den) (by omega)
 have M2 := offcutref02_Mul.ev hb.num (Qn.cast_abs ha.den) (by omega)
 rw [Zn.tz_nat] at M1 M2
 rw [Nat.add_comm J K] at x2
 have A := offcutref02_Add.ev x1 x2 (by omega)
 have L := offcutref03_Low.ev (Zn.abs_add x1 x2) (Num.le_pow (Num.mul_lt ha.den hb.den) (by omega)) (Nat.mul_ne_zero a.den_nz b.den_nz) (by omega) (by omega)
 rw [← Rat.add_def'] at L
 unfold offcutref03_Add.f
 exact Ev.bind M1 (Ev.bind M2 (Ev.bind A (Ev.bind P (Ev.bind L (Ev.now _)))))
set_option synthInstance.checkSynthOrder false in
open Lin in
set_option maxHeartbeats 4000000 in
instance offcutref03_Add.t {k : Nat} {a0_0 : ByteArray} {a0_1 : ByteArray} {a1_0 : ByteArray} {a1_1 : ByteArray} {r : ByteArray × ByteArray} [h : Ans (offcutref03_Add.f k a0_0 a0_1 a1_0 a1_1) r] : Tl Try.prog 29 [.agg [.val (.string a0_0), .val (.string a0_1)], .agg [.val (.string a1_0), .val (.string a1_1)]] (.el (.agg [.val (.string r.1), .val (.string r.2)])) := by
 have h := h.out
 unfold offcutref03_Add.f at h
 repeat' (first | (replace h := Lin.bndK h) | (replace h := Lin.bnd h; obtain ⟨_, _, h⟩ := h) | split at h | cases h)
 all_goals exact ⟨Tells.go Try.func29 Try.ntmps29⟩
def rat_Sub.f (k : Nat) (a0_0 : Bool) (l0_1 : List Int) (l0_2 : List Int) (a1_0 : Bool) (l1_1 : List Int) (l1_2 : List Int) : Option (Bool × List Int × List Int) := (rat_Neg.f k a1_0 l1_1 l1_2).bind fun bt858 => ((rat_Add.f k a0_0 l0_1 l0_2 bt858.1 bt858.2.1 bt858.2.2).bind fun bt865 => (some (bt865.1, bt865.2.1, bt865.2.2)))
theorem rat_Sub.ev {m m' : Bool} {l1 l2 k1 k2 : List Int} {a b : Rat} {K J : Nat} (ha : Qn.Is m l1 l2 a K) (hb : Qn.Is m' k1 k2 b J) (hK1 : 1 ≤ K) (hJ1 : 1 ≤ J) (hK : K + J < 300000) : Ev (fun k => rat_Sub.f k m l1 l2 m' k1 k2) (Qn.qd (a - b)) := by
 unfold rat_Sub.f
 rw [Rat.sub_eq_add_neg]
 exact Ev.bind (rat_Neg.ev hb hJ1 (by omega)) (Ev.bind (rat_Add.ev ha (Qn.Is.qd (hb.sm hJ1).neg) hK1 hJ1 hK) (Ev.now _))
set_option synthInstance.checkSynthOrder false in
open Lin in
set_option maxHeartbeats 4000000 in
instance rat_Sub.t {k : Nat} {a0_0 : Bool} {l0_1 : List Int} {l0_2 : List Int} {a1_0 : Bool} {l1_1 : List Int} {l1_2 : List Int} {r : Bool × List Int × List Int} [h : Ans (rat_Sub.f k a0_0 l0_1 l0_2 a1_0 l1_1 l1_2) r] : Tl Try.prog 30 [.agg [.val (.bool a0_0), .row l0_1, .row l0_2], .agg [.val (.bool a1_0), .row l1_1, .row l1_2]] (.el (.agg [.val (.bool r.1), .row r.2.1, .row r.2.2])) := by
 have h := h.out
 unfold rat_Sub.f at h
 repeat' (first | (replace h := Lin.bndK h) | (replace h := Lin.bnd h; obtain ⟨_, _, h⟩ := h) | split at h | cases h)
 all_goals exact ⟨Tells.go Try.func30 Try.ntmps30⟩
def offcutref02_Neg.f (a0 : ByteArray) : Option (ByteArray) := (offcutref02_Below.f a0).bind fun t720 => ((offcutref02_size.f a0).bind fun t721 => ((offcutref02_Made.f (!t720) t721).bind fun t722 => (some t722)))
theorem offcutref02_Neg.sem (z : Int) (hz : (Dec.dc z.natAbs).length < 9000000000000000000) : offcutref02_Neg.f (Zn.tz z) = some (Zn.tz (-z)) := by
 unfold offcutref02_Neg.f
 rw [offcutref02_Below.sem, Option.bind_some, offcutref02_size.sem, Option.bind_some, offcutref02_Made.sem _ _ hz, Option.bind_some, Zn.zv_not, Zn.zv_self]
set_option synthInstance.checkSynthOrder false in
open Lin in
set_option maxHeartbeats 4000000 in
instance offcutref02_Neg.t {a0 : ByteArray} {r : ByteArray} [h : Ans (offcutref02_Neg.f a0) r] : Tl Try.prog 55 [.one (.val (.string a0))] (.el (.one (.val (.string r)))) := by
 have h := h.out
 unfold offcutref02_Neg.f at h
 repeat' (first | (replace h := Lin.bndK h) | (replace h := Lin.bnd h; obtain ⟨_, _, h⟩ := h) | split at h | cases h)
 all_goals exact ⟨Tells.go Try.func55 Try.ntmps55⟩
def offcutref03_Neg.f (a0_0 : ByteArray) (a0_1 : ByteArray) : Option (ByteArray × ByteArray) := (offcutref02_Neg.f a0_0).bind fun t874 => (some (t874, a0_1))
theorem offcutref03_Neg.sem {a : Rat} {K : Nat} (ha : Qn.Sm a K) (hK : K < 300000) : offcutref03_Neg.f (Zn.tz a.num) (Dec.dec a.den) = some (Zn.tz (-a).num, Dec.dec (-a).den) := by
 have la := Dec.dc_len32 (k := K + 1) (by omega) (Num.le_pow ha.num (by omega))
 unfold offcutref03_Neg.f
 rw [offcutref02_Neg.sem _ (by omega), Option.bind_some, Rat.neg_num, Rat.neg_den]
set_option synthInstance.checkSynthOrder false in
open Lin in
set_option maxHeartbeats 4000000 in
instance offcutref03_Neg.t {a0_0 : ByteArray} {a0_1 : ByteArray} {r : ByteArray × ByteArray} [h : Ans (offcutref03_Neg.f a0_0 a0_1) r] : Tl Try.prog 31 [.agg [.val (.string a0_0), .val (.string a0_1)]] (.el (.agg [.val (.string r.1), .val (.string r.2)])) := by
 have h := h.out
 unfold offcutref03_Neg.f at h
 repeat' (first | (replace h := Lin.bndK h) | (replace h := Lin.bnd h; obtain ⟨_, _, h⟩ := h) | split at h | cases h)
 all_goals exact ⟨Tells.go Try.func31 Try.ntmps31⟩
section
def rat_Sum.f (k : Nat) (m : Bool) (l1 l2 : List Int) (m' : Bool) (k1 k2 : List Int) (m2 : Bool) (j1 j2 : List Int) : Option (Bool × List Int × List Int) := (rat_Int.f k 0).bind fun a => (rat_Add.f k a.1 a.2.1 a.2.2 m l1 l2).bind fun b => (rat_Add.f k b.1 b.2.1 b.2.2 m' k1 k2).bind fun c => (rat_Add.f k c.1 c.2.1 c.2.2 m2 j1 j2)
theorem rat_Sum.ev {m m' m2 : Bool} {l1 l2 k1 k2 j1 j2 : List Int} {a b c : Rat} {K : Nat} (ha : Qn.Is m l1 l2 a K) (hb : Qn.Is m' k1 k2 b K) (hc : Qn.Is m2 j1 j2 c K) (hK1 : 2 ≤ K) (hK : K < 30000) : Ev (fun k => rat_Sum.f k m l1 l2 m' k1 k2 m2 j1 j2) (Qn.qd (a + b + c)) := by
 have s0 := Qn.Sm.int (n := 0) (K := 2) (by simp) (by omega)
 have A1 := rat_Add.ev (Qn.Is.qd s0) ha (by omega) (by omega) (by omega)
 have z : ((0 : Int) : Rat) + a = a := by
  show (0 : Rat) + a = a
  exact Rat.zero_add a
 rw [z] at A1
 have sa := ha.sm (by omega)
 have sb := hb.sm (by omega)
 have A2 := rat_Add.ev (Qn.Is.qd sa) hb (by omega) (by omega) (by omega)
 have A3 := rat_Add.ev (Qn.Is.qd (sa.add sb)) hc (by omega) (by omega) (by omega)
 unfold rat_Sum.f
 exact Ev.bind (rat_Int.ev 0 (by omega) (by omega)) (Ev.bind A1 (Ev.bind A2 A3))
section
open Lin
instance : SlcT Try.prog 84 27 := ⟨Try.underlying84⟩
theorem rat_Sum.w64 (i : Nat) (h : i < 1000000) : wrap64 ((i : Int) + 1) = ((i + 1 : Nat) : Int) := by unfold wrap64; omega
def rat_Sum.S (q : List (Bool × List Int × List Int)) (acc : Nat → Bool × List Int × List Int) (i : Nat) : St := ⟨18, [(2, .ptr 2 0), (3, .ptr 3 0), (7, .rs (.el (.one (.rats q)))), (8, .rs (.el (.one (.val (.int .i64 3))))), (9, .rs (.el (.one (.val (.int .i64 (i : Int))))))], [(2, 27, [.val (.bool false), .row [], .row []]), (3, 27, [.val (.bool (acc i).1), .row (acc i).2.1, .row (acc i).2.2])]⟩
set_option synthInstance.checkSynthOrder false in
set_option maxHeartbeats 4000000 in
instance rat_Sum.t {k : Nat} {m : Bool} {l1 l2 : List Int} {m' : Bool} {k1 k2 : List Int} {m2 : Bool} {j1 j2 : List Int} {r : Bool × List Int × List Int} [h : Ans (rat_Sum.f k m l1 l2 m' k1 k2 m2 j1 j2) r] : Tl Try.prog 34 [.one (.rats [(m, l1, l2), (m', k1, k2), (m2, j1, j2)])] (.el (.agg [.val (.bool r.1), .row r.2.1, .row r.2.2])) := by
 have h := h.out
 unfold rat_Sum.f at h
 obtain ⟨a, _, h⟩ := Lin.bnd h
 obtain ⟨b, _, h⟩ := Lin.bnd h
 obtain ⟨c, _, h⟩ := Lin.bnd h
 have : Ans _ r := ⟨h⟩
 clear h
 refine ⟨Tells.body Try.func34 rfl (by kernel_rfl) ?_ (by kernel_rfl)⟩
 rw [Try.ntmps34]
 repeat' (first
  | refine Run.mv ?_ | refine Run.asg ?_ | refine Run.lenq ?_ | refine Run.call1 ?_ | refine Run.st ?_ | refine Run.al ?_ | refine Run.endF ?_ | refine K.thenN ?_ | refine AWp.seq ?_ | refine AWp.regF ?_ | refine AWp.block ?_)
 refine AWp.loop (fun i => i ≤ 3) (rat_Sum.S _ fun i => match i with | 0 => a | 1 => b | 2 => c | _ => r) (fun i => 3 - i) 0 (by omega) ⟨rfl, ⟨rfl, rfl, rfl, rfl, rfl, trivial⟩, ⟨rfl, rfl, trivial⟩, rfl⟩ (fun i hi => ?_)
 match i, hi with
 | 0, _ | 1, _ | 2, _ =>
  unfold rat_Sum.S
  repeat' (first
   | refine Run.mv ?_ | refine Run.asg ?_ | refine Run.idxq ?_ | refine Run.ldq ?_ | refine Run.ld3 ?_ | refine Run.call2 ?_ | refine Run.st ?_ | refine Run.icmp ?_ | refine Run.iar64 ?_ | refine Run.al ?_ | refine Run.endF ?_ | refine K.thenN ?_ | refine K.thenX ?_ | refine K.blkN ?_ | refine AWp.seq ?_ | refine AWp.regF ?_ | refine AWp.block ?_ | refine AWp.condT ?_ | refine AWp.condF ?_ | refine AWp.skip ?_
   | exact K.rndN 1 (Nat.le_of_ble_eq_true rfl) (Nat.le_of_ble_eq_true rfl) ⟨rfl, ⟨rfl, rfl, rfl, rfl, congrArg (fun z : Int => Den.rs (.el (.one (.val (.int .i64 z))))) (rat_Sum.w64 0 (by decide)), trivial⟩, ⟨rfl, rfl, trivial⟩, rfl⟩ | exact K.rndN 2 (Nat.le_of_ble_eq_true rfl) (Nat.le_of_ble_eq_true rfl) ⟨rfl, ⟨rfl, rfl, rfl, rfl, congrArg (fun z : Int => Den.rs (.el (.one (.val (.int .i64 z))))) (rat_Sum.w64 1 (by decide)), trivial⟩, ⟨rfl, rfl, trivial⟩, rfl⟩ | exact K.rndN 3 (Nat.le_of_ble_eq_true rfl) (Nat.le_of_ble_eq_true rfl) ⟨rfl, ⟨rfl, rfl, rfl, rfl, congrArg (fun z : Int => Den.rs (.el (.one (.val (.int .i64 z))))) (rat_Sum.w64 2 (by decide)), trivial⟩, ⟨rfl, rfl, trivial⟩, rfl⟩)
 | 3, _ =>
  unfold rat_Sum.S
  repeat' (first
   | refine Run.icmp ?_ | refine Run.endF ?_ | refine K.thenN ?_ | refine K.thenX ?_ | refine K.rndX ?_ | refine K.blkX ?_ | refine K.thenR ?_ | refine AWp.seq ?_ | refine AWp.regF ?_ | refine AWp.condF ?_ | refine AWp.exit ?_ | refine AWp.ret ?_ | refine Run.ld3 ?_ | refine Run.st ?_ | exact FinK.ret1)
end
end
def offcutlaw03_RatSums.j0 : Nat → Bool → Bool → List Int → List Int → Bool → List Int → List Int → Option (Bool)
 | 0, _, _, _, _, _, _, _ => none
 | k + 1, x14, x908000, x908001, x908002, x909000, x909001, x909002 => if x14 = true then ((offcutlaw03_awake.f k).bind fun t911 => (some t911)) else ((offcutlaw03_Of.f k x908000 x908001 x908002).bind fun bt912 => ((offcutlaw03_Of.f k x909000 x909001 x909002).bind fun bt914 => ((rat_Add.f k x908000 x908001 x908002 x909000 x909001 x909002).bind fun bt918 => ((offcutref03_Add.f k bt912.1 bt912.2 bt914.1 bt914.2).bind fun bt925 => ((offcutlaw03_Is.f k bt918.1 bt918.2.1 bt918.2.2 bt925.1 bt925.2).bind fun t927 => (if t927 = true then ((rat_Sub.f k x908000 x908001 x908002 x909000 x909001 x909002).bind fun bt928 => ((offcutref03_Neg.f bt914.1 bt914.2).bind fun bt935 => ((offcutref03_Add.f k bt912.1 bt912.2 bt935.1 bt935.2).bind fun bt937 => ((offcutlaw03_Is.f k bt928.1 bt928.2.1 bt928.2.2 bt937.1 bt937.2).bind fun t939 => (if t939 = true then ((rat_Mul.f k x908000 x908001 x908002 x909000 x909001 x909002).bind fun bt940 => ((offcutref03_Mul.f k bt912.1 bt912.2 bt914.1 bt914.2).bind fun bt947 => ((offcutlaw03_Is.f k bt940.1 bt940.2.1 bt940.2.2 bt947.1 bt947.2).bind fun t949 => (if t949 = true then ((rat_Neg.f k x908000 x908001 x908002).bind fun bt950 => ((offcutref03_Neg.f bt912.1 bt912.2).bind fun bt957 => ((offcutlaw03_Is.f k bt950.1 bt950.2.1 bt950.2.2 bt957.1 bt957.2).bind fun t959 => (if t959 = true then ((rat_Sum.f k x908000 x908001 x908002 x909000 x909001 x909002 x908000 x908001 x908002).bind fun bt960 => ((offcutref03_Add.f k bt912.1 bt912.2 bt914.1 bt914.2).bind fun bt967 => ((offcutref03_Add.f k bt967.1 bt967.2 bt912.1 bt912.2).bind fun bt969 => ((offcutlaw03_Is.f k bt960.1 bt960.2.1 bt960.2.2 bt969.1 bt969.2).bind fun t971 => (if t971 = true then ((offcutlaw03_awake.f k).bind fun t972 => (some t972)) else (some false)))))) else (some false))))) else (some false))))) else (some false)))))) else (some false)))))))
def offcutlaw03_RatSums.f (k : Nat) (a0_0 : Bool) (l0_1 : List Int) (l0_2 : List Int) (a1_0 : Bool) (l1_1 : List Int) (l1_2 : List Int) : Option (Bool) := (offcutlaw03_few.f a0_0 l0_1 l0_2).bind fun t909 => (if t909 = true then ((offcutlaw03_few.f a1_0 l1_1 l1_2).bind fun t910 => (offcutlaw03_RatSums.j0 k (!t910) a0_0 l0_1 l0_2 a1_0 l1_1 l1_2)) else (offcutlaw03_RatSums.j0 k true a0_0 l0_1 l0_2 a1_0 l1_1 l1_2))
set_option synthInstance.checkSynthOrder false in
open Lin in
set_option maxHeartbeats 4000000 in
instance offcutlaw03_RatSums.t {k : Nat} {a0_0 : Bool} {l0_1 : List Int} {l0_2 : List Int} {a1_0 : Bool} {l1_1 : List Int} {l1_2 : List Int} [h : Ans (offcutlaw03_RatSums.f k a0_0 l0_1 l0_2 a1_0 l1_1 l1_2) true] : Tl Try.prog 6 [.agg [.val (.bool a0_0), .row l0_1, .row l0_2], .agg [.val (.bool a1_0), .row l1_1, .row l1_2]] (.el (.one (.val (.bool true)))) := by
 have h := h.out
 unfold offcutlaw03_RatSums.f at h
 repeat' (first | (replace h := Lin.bndK h) | (replace h := Lin.bnd h; obtain ⟨_, _, h⟩ := h) | split at h | unfold offcutlaw03_RatSums.j0 at h | cases h)
 all_goals exact ⟨Tells.goC Try.func6 Try.ntmps6⟩
open Lin in
theorem offcutlaw03_RatSums.calls (k : Nat) (a0_0 : Bool) (A0_1 : Option Addr) (c0_1 : Nat) (l0_1 : List Int) (A0_2 : Option Addr) (c0_2 : Nat) (l0_2 : List Int) (a1_0 : Bool) (A1_1 : Option Addr) (c1_1 : Nat) (l1_1 : List Int) (A1_2 : Option Addr) (c1_2 : Nat) (l1_2 : List Int) (r : Bool) (w : World) (hr0_1 : Kd.C (Kd.int .u32) w A0_1 l0_1.length l0_1) (hc0_1 : l0_1.length ≤ c0_1) (hr0_2 : Kd.C (Kd.int .u32) w A0_2 l0_2.length l0_2) (hc0_2 : l0_2.length ≤ c0_2) (hr1_1 : Kd.C (Kd.int .u32) w A1_1 l1_1.length l1_1) (hc1_1 : l1_1.length ≤ c1_1) (hr1_2 : Kd.C (Kd.int .u32) w A1_2 l1_2.length l1_2) (hc1_2 : l1_2.length ≤ c1_2) (hrt : r = true) (h : offcutlaw03_RatSums.f k a0_0 l0_1 l0_2 a1_0 l1_1 l1_2 = some r) :
  Calls Try.prog 6 #[.agg #[.bool a0_0, .slice A0_1 l0_1.length c0_1, .slice A0_2 l0_2.length c0_2], .agg #[.bool a1_0, .slice A1_1 l1_1.length c1_1, .slice A1_2 l1_2.length c1_2]] w fun e w' => e = .returned (.bool r) ∧ Below w.heap.size w w' := by
 subst hrt
 have i_ : Ans (offcutlaw03_RatSums.f k a0_0 l0_1 l0_2 a1_0 l1_1 l1_2) true := ⟨h⟩
 exact law_calls (vs := [.agg #[.bool a0_0, .slice A0_1 l0_1.length c0_1, .slice A0_2 l0_2.length c0_2], .agg #[.bool a1_0, .slice A1_1 l1_1.length c1_1, .slice A1_2 l1_2.length c1_2]]) (ds := [.agg [.val (.bool a0_0), .row l0_1, .row l0_2], .agg [.val (.bool a1_0), .row l1_1, .row l1_2]]) Try.func6 inferInstance rfl (args_cons (⟨[_, _, _], rfl, SeesL.cons (⟨rfl, rfl⟩) (SeesL.cons (⟨_, _, rfl, hc0_1, hr0_1, fun _ _ _ h => h⟩) (SeesL.cons (⟨_, _, rfl, hc0_2, hr0_2, fun _ _ _ h => h⟩) (SeesL.nil)))⟩) (args_cons (⟨[_, _, _], rfl, SeesL.cons (⟨rfl, rfl⟩) (SeesL.cons (⟨_, _, rfl, hc1_1, hr1_1, fun _ _ _ h => h⟩) (SeesL.cons (⟨_, _, rfl, hc1_2, hr1_2, fun _ _ _ h => h⟩) (SeesL.nil)))⟩) (args_mk0)))
end Go.Proofs.Ytcdkopidgibijaa.PR
