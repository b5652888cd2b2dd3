/- Several functions' printed texts in one file. -/
import Derived.Test.YtmodmjeibbgdgaaProg
import Derived.Below
import Derived.Deep.Draws
import Derived.Deep.AppendLies
import Derived.Maps.AppendAt
import Derived.OwnWalk
import Derived.Laws.BytesArg
import Derived.Laws.MakeOwn
import Derived.Laws.OwnMore
import Derived.Deep.OwnRows
import Derived.Tactics
import Derived.Lib.ConvBytes
import Derived.Laws.Slices
import Derived.WalkKit
import Derived.KernelRfl
import Derived.RowKit3
import Derived.Deep.LoopGhost
import Derived.Deep.QuietTactic
import Derived.BigQuiet
import Derived.WideLaws
import Derived.Deep.DeepCutAuto
import Derived.Deep.CutBlock
import Derived.Deep.RegionHeld3
import Derived.Laws.Rows
import Derived.Lib.AppendStr
import Derived.ArgAppend
import Derived.Laws.IdiomCopy
import Derived.OrdersHeld
import Derived.Laws.BitsLemmas
import Derived.RowKit
import Derived.Test.YtmodmjeibbgdgaaWWords
import Derived.Test.YtmodmjeibbgdgaaWLast
import Derived.Test.YtmodmjeibbgdgaaWTab
import Derived.Test.YtmodmjeibbgdgaaWFour
import Derived.Test.YtmodmjeibbgdgaaWQPut
import Derived.Test.YtmodmjeibbgdgaaWApart
import Derived.Test.YtmodmjeibbgdgaaWArr
import Derived.Test.YtmodmjeibbgdgaaWZeros
import Derived.Test.YtmodmjeibbgdgaaWFoot
import Derived.Test.YtmodmjeibbgdgaaWKept
import Derived.Test.YtmodmjeibbgdgaaWShare
import Derived.Test.YtmodmjeibbgdgaaWN
import Derived.Test.YtmodmjeibbgdgaaWFootNe
import Derived.Test.YtmodmjeibbgdgaaWAt
import Derived.Test.YtmodmjeibbgdgaaWEqStruct
import Derived.Test.YtmodmjeibbgdgaaWRepsOne
import Derived.Test.YtmodmjeibbgdgaaWInv
import Derived.Test.YtmodmjeibbgdgaaWInvWords
import Derived.Test.YtmodmjeibbgdgaaWGuard
import Derived.Test.YtmodmjeibbgdgaaWNEv
import Derived.Test.YtmodmjeibbgdgaaWMore
import Derived.WalkSpells
import Derived.Test.YtmodmjeibbgdgaaNum
import Derived.Stop.RegionWithIn
import Derived.Test.YtmodmjeibbgdgaaBack
import Derived.Test.YtmodmjeibbgdgaaDec
section
-- PRINTED by print.py (a twelfth state) out of the translation. Not trusted: Lean checks it.
namespace Go.Proofs.Ytmodmjeibbgdgaa.PR
open Go.RowKit Go.Proofs.YtmodmjeibbgdgaaW.PrintWords Go.Proofs.YtmodmjeibbgdgaaW.PrintLast Go.Proofs.YtmodmjeibbgdgaaW.PrintMore
attribute [local go_sem] max2_int min2_int max_two min_two max_three min_three max_four min_four   -- for this text's walks alone
set_option linter.unusedVariables false
set_option linter.unusedSimpArgs false



def errW : Option Int → Value
  | none => .nilIface
  | some c => .iface 0 (.int .i64 c)
theorem errW_none : errW none = .nilIface := rfl
theorem errW_some (c : Int) : errW (some c) = .iface 0 (.int .i64 c) := rfl

theorem info3 : (Try.prog.info? 3).map (fun i => (i.zero, i.size, i.bytes)) = some (some (.int .i64 0), 1, 8) := by kernel_rfl
theorem info5 : (Try.prog.info? 5).map (fun i => (i.zero, i.size, i.bytes)) = some (some (.int .u8 0), 1, 1) := by kernel_rfl
theorem info33 : (Try.prog.info? 33).map (fun i => (i.zero, i.size, i.bytes)) = some (some (.int .u32 0), 1, 4) := by kernel_rfl
-- the values' own types

end Go.Proofs.Ytmodmjeibbgdgaa.PR

end
section
-- PRINTED by print.py (a twelfth state) out of the translation. Not trusted: Lean checks it.
namespace Go.Proofs.Ytmodmjeibbgdgaa.PR
open Go.RowKit Go.Proofs.YtmodmjeibbgdgaaW.PrintWords Go.Proofs.YtmodmjeibbgdgaaW.PrintLast Go.Proofs.YtmodmjeibbgdgaaW.PrintMore
attribute [local go_sem] max2_int min2_int max_two min_two max_three min_three max_four min_four   -- for this text's walks alone
set_option linter.unusedVariables false
set_option linter.unusedSimpArgs false

/-! ### offcutlaw01_few: function 12 -/
def offcutlaw01_few.f (l0 : List Int) : Option (Bool) := some (decide ((l0.length : Int) ≤ 12))
set_option maxHeartbeats 8000000 in
set_option maxRecDepth 100000 in
theorem offcutlaw01_few.calls (A0 : Option Addr) (c0 : Nat) (l0 : List Int) (r : Bool) (w : World) (hr0 : Kd.C (Kd.int .u32) w A0 l0.length l0) (hc0 : l0.length ≤ c0) (h : offcutlaw01_few.f l0 = some r) :
    Calls Try.prog 12 #[.slice A0 l0.length c0] w fun e w' => e = .returned (.bool r) ∧ Drawn0 w w' := by
  have HR0 := Aside0.mk hr0
  have HC0 := Aside0.mk hc0
  clear hr0 hc0
  have H : (some (decide ((l0.length : Int) ≤ 12))) = some r := h
  clear h
  obtain rfl := Option.some.inj H
  go_enter Try.func12, Try.ntmps12
  go_wp2
  go_ret
  exact ⟨by first | rfl | (simp; done) | (simp [*]; done), by repeat (first | exact Drawn0.refl _ | apply Drawn0.step)⟩

end Go.Proofs.Ytmodmjeibbgdgaa.PR

end
section
-- PRINTED by print.py (a twelfth state) out of the translation. Not trusted: Lean checks it.
namespace Go.Proofs.Ytmodmjeibbgdgaa.PR
open Go.RowKit Go.Proofs.YtmodmjeibbgdgaaW.PrintWords Go.Proofs.YtmodmjeibbgdgaaW.PrintLast Go.Proofs.YtmodmjeibbgdgaaW.PrintMore
attribute [local go_sem] max2_int min2_int max_two min_two max_three min_three max_four min_four   -- for this text's walks alone
set_option linter.unusedVariables false
set_option linter.unusedSimpArgs false

/-! ### nat_Nat_uint32_46: function 46 -/
def nat_Nat_uint32_46.f (l0 : List Int) : Option (List Int) := (some (([] : List Int) : List Int)).bind fun y101 => (if y101.length + l0.length < 35184372088832 then (some (y101 ++ l0)) else (none))
set_option maxHeartbeats 8000000 in
set_option maxRecDepth 100000 in
theorem nat_Nat_uint32_46.calls (A0 : Option Addr) (c0 : Nat) (l0 : List Int) (r : List Int) (w : World) (hr0 : Kd.C (Kd.int .u32) w A0 l0.length l0) (hc0 : l0.length ≤ c0) (h : nat_Nat_uint32_46.f l0 = some r) :
    Calls Try.prog 46 #[.slice A0 l0.length c0] w fun e w' => ∃ v0_ : Value, e = .returned (v0_) ∧ Kd.R (Kd.int .u32) 33 w' w.heap.size (fun _ => True) v0_ r ∧ Below w.heap.size w w' := by
  have HR0 := Aside0.mk hr0
  have HC0 := Aside0.mk hc0
  have hnil : ∀ (a : Option Addr) (l c : Nat) (w : World), (binOp .eql 23 (.slice a l c) (.slice none 0 0)).run Try.prog w = .ok (.bool a.isNone) w := by
    intro a l c w
    exact Lib.run_eql_slice_nil w _ _ a l c 0 0 Try.underlying23
  cases A0 with
  | none =>
    have hz : l0 = [] := by
      rcases Nat.eq_zero_or_pos l0.length with h0 | h0
      · exact List.eq_nil_of_length_eq_zero h0
      · obtain ⟨_, e, _⟩ := hr0.2.2 h0
        cases e
    subst hz
    obtain rfl : r = [] := by
      have : some ([] : List Int) = some r := h
      exact (Option.some.inj this).symm
    clear hr0 hc0 h HR0 HC0
    go_enter Try.func46, Try.ntmps46
    go_wp2
    go_ret
    exact ⟨_, rfl, Kd.R_nil _ _ _ _ _, Below.refl _ _⟩
  | some ad =>
    clear hr0 hc0
    have HB := Aside0.mk (Below.refl w.heap.size w)
    have H : ((some (([] : List Int) : List Int)).bind fun y101 => (if y101.length + l0.length < 35184372088832 then (some (y101 ++ l0)) else (none))) = some r := h
    clear h
    obtain ⟨y101, hy101⟩ : ∃ y_ : List Int, y_ = (([] : List Int)) := ⟨_, rfl⟩
    replace H : (if y101.length + l0.length < 35184372088832 then (some (y101 ++ l0)) else (none)) = some r := by first | (rw [hy101]; with_reducible exact H) | (have H2_ := (Option.bind_some _ _).symm.trans H; rw [hy101]; with_reducible exact H2_) | (have H2_ := (Option.bind_some _ _).symm.trans H; with_reducible exact H2_) | with_reducible exact H | (rw [hy101]; exact H) | exact H
    have Ny101 := Aside0.mk hy101
    clear hy101
    by_cases c2 : y101.length + l0.length < 35184372088832
    · rw [if_pos c2] at H
      have LMc2 := Aside0.mk c2
      clear c2
      obtain ⟨y104, hy104⟩ : ∃ y_ : List Int, y_ = (y101 ++ l0) := ⟨_, rfl⟩
      replace H : (some y104) = some r := by first | (rw [hy104]; with_reducible exact H) | (have H2_ := (Option.bind_some _ _).symm.trans H; rw [hy104]; with_reducible exact H2_) | (have H2_ := (Option.bind_some _ _).symm.trans H; with_reducible exact H2_) | with_reducible exact H | (rw [hy104]; exact H) | exact H
      have Ny104 := Aside0.mk hy104
      clear hy104
      obtain rfl := Option.some.inj H
      go_enter Try.func46, Try.ntmps46
      go_wp2_with (first | ((with_reducible refine gate_dst (N := 5) rfl ?_); refine Kd.R_lit (Kd.int .u32) _ 33 ?hg (N := 5) ?hd (xs := ([] : List Int)) (inner := []) (ok := fun _ => True) (okp := fun _ => True) ?hr ?hp (fun _ hk => hk) trivial (Below.refl _ _) (Nat.le_refl _) (by simp) ?_; (case hd => rfl); (case hg => rfl); (case hr => first | (go_simp; done) | (go_simp; rfl)); (case hp => exact (Reps.none _ _)); intro v102 w3 ho4 hb hg_ hnew_; clear hg_ hnew_; (first | rw [← Ny101.out] at ho4 | (simp only [Int.reduceToNat] at ho4; rw [← Ny101.out] at ho4)); have n0_ := Aside0.mk (Kd.R_lower ho4 (below_size (by repeat (first | (with_reducible first | exact HB.out | apply below_alloc | apply pw_below_drewN | apply below_drew1) | exact HB.out)))); have n1_ := Aside0.mk (below_step (by repeat (first | (with_reducible first | exact HB.out | apply below_alloc | apply pw_below_drewN | apply below_drew1) | exact HB.out)) hb); clear HB; have HO103 := n0_; have HB := n1_; clear n0_ n1_; clear hb ho4) | ((with_reducible refine gate_builtin (b := .append) (xs := #[.tmp 5, .tmp 6]) rfl ?_); at_builtin; refine Kd.R_append_rows (Kd.int .u32) (w0 := w) w.heap.size rfl (.tmp 5) (.tmp 6) 23 33 (.int .u32 0) 4 rfl Try.underlying23 info33 rfl (by decide) (by omega) v102 y101 l0 _ _ _ (fun _ => True) (fun _ => False) rfl rfl ?aO ?aR (fun _ _ h => h) (fun _ h => h.elim) ?aF ?aB ?aS ?aL ?_; (case aR => repeat (first | exact (Kd.C_below HR0.out HB.out) | (with_reducible refine Kd.C_alloc ?_ _) | (with_reducible refine Kd.C_drewN ?_ _) | (with_reducible refine Kd.C_drew ?_))); (case aB => exact (by repeat (first | (with_reducible first | exact HB.out | apply below_alloc | apply pw_below_drewN | apply below_drew1) | exact HB.out))); (case aF => exact (fun _ _ => trivial)); (case aO => exact (by (with_reducible repeat (first | apply Kd.R_alloc | apply Kd.R_drewN | apply Kd.R_drew)); exact HO103.out)); (case aS => exact (below_size (by repeat (first | (with_reducible first | exact HB.out | apply below_alloc | apply pw_below_drewN | apply below_drew1) | exact HB.out)))); (case aL => have := LMc2.out; omega); intro v105 w5 ho hb hg hat; rw [← Ny104.out] at ho; have n0_ := Aside0.mk (hb); have n1_ := Aside0.mk (ho); clear HB; clear HO103; have HB := n0_; have HO106 := n1_; clear n0_ n1_; clear ho hb hg hat))
      go_ret
      exact ⟨_, by first | rfl | (simp [errW_none, errW_some] <;> rfl) | (simp [*, errW_none, errW_some] <;> rfl), by (with_reducible repeat (first | apply Kd.R_alloc | apply Kd.R_drewN | apply Kd.R_drew)); exact HO106.out, by repeat (first | (with_reducible first | exact HB.out | apply below_alloc | apply pw_below_drewN | apply below_drew1) | exact HB.out)⟩
    · rw [if_neg c2] at H
      exact absurd H (by simp)

end Go.Proofs.Ytmodmjeibbgdgaa.PR

end
section
-- PRINTED by print.py (a twelfth state) out of the translation. Not trusted: Lean checks it.
namespace Go.Proofs.Ytmodmjeibbgdgaa.PR
open Go.RowKit Go.Proofs.YtmodmjeibbgdgaaW.PrintWords Go.Proofs.YtmodmjeibbgdgaaW.PrintLast Go.Proofs.YtmodmjeibbgdgaaW.PrintMore
attribute [local go_sem] max2_int min2_int max_two min_two max_three min_three max_four min_four   -- for this text's walks alone
set_option linter.unusedVariables false
set_option linter.unusedSimpArgs false

/-! ### nat_trim: function 38 -/
def nat_trim.l0 : Nat → List Int → Int → Option (List Int)
  | 0, _, _ => none
  | k + 1, x0, x3 => if x3 > 0 then (if 0 ≤ (wrap64 (x3 - 1)) then (if (wrap64 (x3 - 1)) < (x0.length : Int) then (if (rd x0 (wrap64 (x3 - 1))) = 0 then (nat_trim.l0 k x0 (wrap64 (x3 - 1))) else (if 0 ≤ x3 then (if x3 ≤ (x0.length : Int) then ((nat_Nat_uint32_46.f (x0.take (x3 : Int).toNat)).bind fun t109 => (some t109)) else (none)) else (none))) else (none)) else (none)) else (if 0 ≤ x3 then (if x3 ≤ (x0.length : Int) then ((nat_Nat_uint32_46.f (x0.take (x3 : Int).toNat)).bind fun t113 => (some t113)) else (none)) else (none))
def nat_trim.f (k : Nat) (l0 : List Int) : Option (List Int) := nat_trim.l0 k l0 (l0.length : Int)
theorem nat_trim.mono_l : ∀ k, (∀ y0 y1, LeO (nat_trim.l0 k y0 y1) (nat_trim.l0 (k + 1) y0 y1))
  | 0 => fun _ _ r h => by simp [nat_trim.l0] at h
  | k + 1 => by
    have ih0 := nat_trim.mono_l k
    · intro y0 y1
      unfold nat_trim.l0
      repeat' first
      | (with_reducible exact ih0 _ _)
      | (with_reducible exact LeO.refl _)
      | (with_reducible exact LeO.none _)
      | (with_reducible refine LeO.ite ?_ ?_)
      | (with_reducible refine LeO.bind ?_ (fun _ => ?_))
      | exact ih0 _ _
      | exact LeO.none _
      | refine LeO.ite ?_ ?_
      | refine LeO.bind ?_ (fun _ => ?_)
theorem nat_trim.mono : ∀ a0 k, LeO (nat_trim.f k a0) (nat_trim.f (k + 1) a0) := by
  intro a0 k
  have ih0 := nat_trim.mono_l k
  unfold nat_trim.f
  repeat' first
      | (with_reducible exact ih0 _ _)
      | (with_reducible exact LeO.refl _)
      | (with_reducible exact LeO.none _)
      | (with_reducible refine LeO.ite ?_ ?_)
      | (with_reducible refine LeO.bind ?_ (fun _ => ?_))
      | exact ih0 _ _
      | exact LeO.none _
      | refine LeO.ite ?_ ?_
      | refine LeO.bind ?_ (fun _ => ?_)
set_option maxHeartbeats 8000000 in
set_option maxRecDepth 100000 in
theorem nat_trim.calls (k : Nat) (A0 : Option Addr) (c0 : Nat) (l0 : List Int) (r : List Int) (w : World) (hr0 : Kd.C (Kd.int .u32) w A0 l0.length l0) (hc0 : l0.length ≤ c0) (h : nat_trim.f k l0 = some r) :
    Calls Try.prog 38 #[.slice A0 l0.length c0] w fun e w' => ∃ v0_ : Value, e = .returned (v0_) ∧ Kd.R (Kd.int .u32) 33 w' w.heap.size (fun _ => True) v0_ r ∧ Below w.heap.size w w' := by
  have HR0 := Aside0.mk hr0
  have HC0 := Aside0.mk hc0
  clear hr0 hc0
  have HB := Aside0.mk (Below.refl w.heap.size w)
  have H : (nat_trim.l0 k l0 (l0.length : Int)) = some r := h
  clear h
  have H' := Aside0.mk H
  clear H
  go_enter Try.func38, Try.ntmps38
  go_wp2
  go_loopg [3] k (fun kq v3 w' => ∃ (x3_1 : Int), v3 = .int .i64 x3_1 ∧ Aside0 (nat_trim.l0 kq l0 x3_1 = some r) ∧ Aside0 (kq ≤ k) ∧ Aside0 (Below w.heap.size w w'))
  case atStart => exact ⟨((l0.length : Int)), (by first | rfl | (simp; done) | (simp [*]; done)), H', ⟨Nat.le_refl _⟩, ⟨by repeat (first | (with_reducible first | exact HB.out | apply below_alloc | apply pw_below_drewN | apply below_drew1) | exact HB.out)⟩⟩
  case round =>
    clear H'
    obtain ⟨x3_1, rfl, HA, HK1, HB⟩ := hrel
    cases gk with
    | zero => exact absurd HA.out (by simp [nat_trim.l0])
    | succ k1 =>
      have H := HA.out
      clear HA
      simp only [nat_trim.l0] at H
      by_cases c2 : x3_1 > 0
      · rw [if_pos c2] at H
        have c2b0 : decide (0 < x3_1) = true := decide_eq_true c2
        clear c2
        obtain ⟨ji3, hji3⟩ : ∃ j_ : Int, (wrap64 (x3_1 - 1)) = j_ := ⟨_, rfl⟩
        replace H : (if 0 ≤ (ji3) then (if (ji3) < (l0.length : Int) then (if (rd l0 (ji3)) = 0 then (nat_trim.l0 k1 l0 ji3) else (if 0 ≤ x3_1 then (if x3_1 ≤ (l0.length : Int) then ((nat_Nat_uint32_46.f (l0.take (x3_1 : Int).toNat)).bind fun t109 => (some t109)) else (none)) else (none))) else (none)) else (none)) = some r := by first | (rw [hji3] at H; exact H) | (simp only [hji3] at H ⊢; exact H)
        have hji3w : (IntKind.i64.wrap (x3_1 - 1)) = ji3 := (i64_w _).trans hji3
        by_cases c4 : 0 ≤ (ji3)
        · rw [if_pos c4] at H
          have c4b0 : decide (0 ≤ (ji3)) = true := decide_eq_true c4
          clear c4
          by_cases c5 : (ji3) < (l0.length : Int)
          · rw [if_pos c5] at H
            have c5b0 : decide ((ji3) < (l0.length : Int)) = true := decide_eq_true c5
            clear c5
            by_cases c6 : (rd l0 (ji3)) = 0
            · rw [if_pos c6] at H
              have c6b0 : ((rd l0 (ji3)) == 0) = true := beq_iff_eq.mpr c6
              have c6b1 : ((rd l0 (ji3)) != 0) = false := bne_eq_false_iff_eq.mpr c6
              clear c6
              have H' := Aside0.mk H
              clear H
              have p107 : 0 ≤ ((ji3) : Int) := of_decide_eq_true (by first | (with_reducible assumption) | assumption)
              have q107 : (ji3) < (l0.length : Int) := of_decide_eq_true (by first | (with_reducible assumption) | assumption)
              obtain ⟨ad107, e107, hx107_0⟩ := Kd.at_int HR0.out (ji3) p107 q107
              cases e107
              replace hx107_0 := (HB.out.cell (World.block_lt_of_cell? w _ hx107_0)).trans hx107_0
              replace p107 := eq_true p107
              replace q107 := eq_true q107
              go_wp2
              go_roundg k1
              case measure => have := HK1.out; omega
              case rel => exact ⟨(ji3), (by first | rfl | (simp; done) | (simp only [← hji3] <;> (first | rfl | simp)) | (simp [*]; done)), H', ⟨by have := HK1.out; omega⟩, ⟨by repeat (first | (with_reducible first | exact HB.out | apply below_alloc | apply pw_below_drewN | apply below_drew1) | exact HB.out)⟩⟩
            · rw [if_neg c6] at H
              have c6b0 : ((rd l0 (ji3)) == 0) = false := beq_eq_false_iff_ne.mpr c6
              have c6b1 : ((rd l0 (ji3)) != 0) = true := bne_iff_ne.mpr c6
              by_cases c7 : 0 ≤ x3_1
              · rw [if_pos c7] at H
                have c7b0 := eq_true c7
                have c7b1 : decide (0 ≤ x3_1) = true := decide_eq_true c7
                clear c7
                by_cases c8 : x3_1 ≤ (l0.length : Int)
                · rw [if_pos c8] at H
                  have c8b0 := eq_true c8
                  have c8b1 : decide (x3_1 ≤ (l0.length : Int)) = true := decide_eq_true c8
                  clear c8
                  replace H := Option.bind_eq_some_iff.mp H
                  obtain ⟨t109, A90, H⟩ := H
                  replace H : (some t109) = some r := H
                  have A9 := Aside0.mk A90
                  clear A90
                  obtain rfl := Option.some.inj H
                  have p107 : 0 ≤ ((ji3) : Int) := of_decide_eq_true (by first | (with_reducible assumption) | assumption)
                  have q107 : (ji3) < (l0.length : Int) := of_decide_eq_true (by first | (with_reducible assumption) | assumption)
                  obtain ⟨ad107, e107, hx107_0⟩ := Kd.at_int HR0.out (ji3) p107 q107
                  cases e107
                  replace hx107_0 := (HB.out.cell (World.block_lt_of_cell? w _ hx107_0)).trans hx107_0
                  replace p107 := eq_true p107
                  replace q107 := eq_true q107
                  obtain ⟨i010, hi010, _, hsz10, _⟩ := info_parts info33
                  obtain ⟨hcut10, hA10, hC10⟩ := print_take_of (P := Try.prog) (Value.int .u32) 0 23 33 .i64 Try.underlying23 hi010 hsz10 (some ad107) c0 l0 x3_1 (of_decide_eq_true (by first | (with_reducible assumption) | assumption)) (of_decide_eq_true (by first | (with_reducible assumption) | assumption)) HC0.out
                  have HR108 := Aside0.mk (Kd.C_of_reads (h1 := fun _ => rfl) (hA10 _ (Kd.reads_of_C HR0.out)))
                  have HC108 := Aside0.mk hC10
                  clear hA10 hC10 hi010 hsz10
                  go_wp2_with (first | ((with_reducible refine gate_callee (f := 46) rfl ?_); refine goesL_ (some 21) rfl rfl Try.func46 (by kernel_rfl) rfl #[.slice (some ad107) (l0.take (x3_1 : Int).toNat).length c0] rfl (by (try simp only [List.map_toArray, List.map_cons, List.map_nil]); first | done | (rw [show (l0.take (x3_1 : Int).toNat).length = x3_1.toNat from (by rw [List.length_take]; have h_ : (x3_1 : Int) ≤ (l0.length : Int) := of_decide_eq_true (by first | (with_reducible assumption) | assumption); omega)] <;> rfl) | rfl | (simp only [List.length_drop, List.length_take]; rfl)) ?_; (with_reducible refine (nat_Nat_uint32_46.calls _ _ (l0.take (x3_1 : Int).toNat) t109 _ ?side1 ?side2 A9.out).mono ?_); (case side1 => repeat (first | exact (Kd.C_below HR108.out HB.out) | (with_reducible refine Kd.C_alloc ?_ _) | (with_reducible refine Kd.C_drewN ?_ _) | (with_reducible refine Kd.C_drew ?_))); (case side2 => exact HC108.out); rintro e w11 ⟨v110, rfl, ho0, hb⟩; refine ⟨_, rfl, ?_⟩; have n0_ := Aside0.mk (Kd.R_lower ho0 (below_size (by repeat (first | (with_reducible first | exact HB.out | apply below_alloc | apply pw_below_drewN | apply below_drew1) | exact HB.out)))); have n1_ := Aside0.mk (below_step (by repeat (first | (with_reducible first | exact HB.out | apply below_alloc | apply pw_below_drewN | apply below_drew1) | exact HB.out)) hb); clear HB; have HO111 := n0_; have HB := n1_; clear n0_ n1_; (try clear hb); (try clear hb2); (try clear hk); (try clear hi); (try clear ho0)))
                  go_ret
                  exact ⟨_, by first | rfl | (simp [errW_none, errW_some] <;> rfl) | (simp only [← hji3]; first | rfl | (simp [errW_none, errW_some] <;> rfl)) | (simp [*, errW_none, errW_some] <;> rfl), by (with_reducible repeat (first | apply Kd.R_alloc | apply Kd.R_drewN | apply Kd.R_drew)); exact HO111.out, by repeat (first | (with_reducible first | exact HB.out | apply below_alloc | apply pw_below_drewN | apply below_drew1) | exact HB.out)⟩
                · rw [if_neg c8] at H
                  exact absurd H (by simp)
              · rw [if_neg c7] at H
                exact absurd H (by simp)
          · rw [if_neg c5] at H
            exact absurd H (by simp)
        · rw [if_neg c4] at H
          exact absurd H (by simp)
      · rw [if_neg c2] at H
        have c2b0 : decide (0 < x3_1) = false := decide_eq_false c2
        clear c2
        by_cases c12 : 0 ≤ x3_1
        · rw [if_pos c12] at H
          have c12b0 := eq_true c12
          have c12b1 : decide (0 ≤ x3_1) = true := decide_eq_true c12
          clear c12
          by_cases c13 : x3_1 ≤ (l0.length : Int)
          · rw [if_pos c13] at H
            have c13b0 := eq_true c13
            have c13b1 : decide (x3_1 ≤ (l0.length : Int)) = true := decide_eq_true c13
            clear c13
            replace H := Option.bind_eq_some_iff.mp H
            obtain ⟨t113, A140, H⟩ := H
            replace H : (some t113) = some r := H
            have A14 := Aside0.mk A140
            clear A140
            obtain rfl := Option.some.inj H
            obtain ⟨i015, hi015, _, hsz15, _⟩ := info_parts info33
            obtain ⟨hcut15, hA15, hC15⟩ := print_take_of (P := Try.prog) (Value.int .u32) 0 23 33 .i64 Try.underlying23 hi015 hsz15 A0 c0 l0 x3_1 (of_decide_eq_true (by first | (with_reducible assumption) | assumption)) (of_decide_eq_true (by first | (with_reducible assumption) | assumption)) HC0.out
            have HR112 := Aside0.mk (Kd.C_of_reads (h1 := fun _ => rfl) (hA15 _ (Kd.reads_of_C HR0.out)))
            have HC112 := Aside0.mk hC15
            clear hA15 hC15 hi015 hsz15
            go_wp2_with (first | ((with_reducible refine gate_callee (f := 46) rfl ?_); refine goesL_ (some 21) rfl rfl Try.func46 (by kernel_rfl) rfl #[.slice A0 (l0.take (x3_1 : Int).toNat).length c0] rfl (by (try simp only [List.map_toArray, List.map_cons, List.map_nil]); first | done | (rw [show (l0.take (x3_1 : Int).toNat).length = x3_1.toNat from (by rw [List.length_take]; have h_ : (x3_1 : Int) ≤ (l0.length : Int) := of_decide_eq_true (by first | (with_reducible assumption) | assumption); omega)] <;> rfl) | rfl | (simp only [List.length_drop, List.length_take]; rfl)) ?_; (with_reducible refine (nat_Nat_uint32_46.calls _ _ (l0.take (x3_1 : Int).toNat) t113 _ ?side1 ?side2 A14.out).mono ?_); (case side1 => repeat (first | exact (Kd.C_below HR112.out HB.out) | (with_reducible refine Kd.C_alloc ?_ _) | (with_reducible refine Kd.C_drewN ?_ _) | (with_reducible refine Kd.C_drew ?_))); (case side2 => exact HC112.out); rintro e w16 ⟨v114, rfl, ho0, hb⟩; refine ⟨_, rfl, ?_⟩; have n0_ := Aside0.mk (Kd.R_lower ho0 (below_size (by repeat (first | (with_reducible first | exact HB.out | apply below_alloc | apply pw_below_drewN | apply below_drew1) | exact HB.out)))); have n1_ := Aside0.mk (below_step (by repeat (first | (with_reducible first | exact HB.out | apply below_alloc | apply pw_below_drewN | apply below_drew1) | exact HB.out)) hb); clear HB; have HO115 := n0_; have HB := n1_; clear n0_ n1_; (try clear hb); (try clear hb2); (try clear hk); (try clear hi); (try clear ho0)))
            go_ret
            exact ⟨_, by first | rfl | (simp [errW_none, errW_some] <;> rfl) | (simp [*, errW_none, errW_some] <;> rfl), by (with_reducible repeat (first | apply Kd.R_alloc | apply Kd.R_drewN | apply Kd.R_drew)); exact HO115.out, by repeat (first | (with_reducible first | exact HB.out | apply below_alloc | apply pw_below_drewN | apply below_drew1) | exact HB.out)⟩
          · rw [if_neg c13] at H
            exact absurd H (by simp)
        · rw [if_neg c12] at H
          exact absurd H (by simp)

theorem nat_trim.sem_l {l : List Int} (hW : Num.Ws l) (hl : l.length < 35184372088832) (n : Nat) : ∀ k, n ≤ l.length → n < k → nat_trim.l0 k l (n : Int) = some (Num.nd (Num.nv (l.take n))) := by
  induction n with
  | zero =>
    intro k _ hk
    obtain ⟨k, rfl⟩ : ∃ m, k = m + 1 := ⟨k - 1, by omega⟩
    simp only [nat_trim.l0]
    rw [if_neg (by omega), if_pos (by omega), if_pos (by omega)]
    simp [nat_Nat_uint32_46.f, Num.nv, Num.nd_zero]
  | succ n ih =>
    intro k hn hk
    obtain ⟨k, rfl⟩ : ∃ m, k = m + 1 := ⟨k - 1, by omega⟩
    have hw : wrap64 (((n + 1 : Nat) : Int) - 1) = (n : Int) := by unfold wrap64; omega
    have hr : rd l (n : Int) = l.getD n 0 := by simp [rd]
    have hs := Num.nv_split (l.take (n + 1)) n (by rw [List.length_take]; omega)
    have ht : (l.take (n + 1)).take n = l.take n := by rw [List.take_take]; congr 1; omega
    have hg : (l.take (n + 1)).getD n 0 = l.getD n 0 := by simp [List.getElem?_take]
    have hd : (l.take (n + 1)).drop (n + 1) = [] := List.drop_of_length_le (by rw [List.length_take]; omega)
    rw [ht, hg, hd] at hs
    simp only [nat_trim.l0]
    rw [if_pos (by omega), hw, if_pos (by omega), if_pos (by omega), hr]
    by_cases h0 : l.getD n 0 = 0
    · rw [if_pos h0, ih k (by omega) (by omega), hs, h0]
      simp [Num.nv]
    · rw [if_neg h0, if_pos (by omega), if_pos (by omega)]
      have hc : (l.take (n + 1)).length < 35184372088832 := by rw [List.length_take]; omega
      have e : Num.nd (Num.nv (l.take (n + 1))) = l.take (n + 1) := by
        refine Num.nd_nv (hW.take _) (.inr ?_)
        rw [List.length_take, Nat.min_eq_left hn, Nat.add_sub_cancel, hg]
        exact h0
      simp only [Int.toNat_natCast]
      rw [e]
      simp only [nat_Nat_uint32_46.f, Option.bind_some, List.length_nil, Nat.zero_add, List.nil_append]
      rw [if_pos hc]
      rfl
theorem nat_trim.sem_w {l : List Int} (hW : Num.Ws l) (hl : l.length < 35184372088832) (k : Nat) (hk : l.length < k) : nat_trim.f k l = some (Num.nd (Num.nv l)) := by
  have := nat_trim.sem_l hW hl l.length k (Nat.le_refl _) hk
  rw [List.take_length] at this
  exact this
/-- A row without noughts at its end. -/
theorem nat_trim.sem {l : List Int} (h : Num.okw l = true) (k : Nat) (hk : l.length < k) : nat_trim.f k l = some (Num.nd (Num.nv l)) := by
  obtain ⟨hl, hW⟩ := (Num.okw_iff l).1 h
  exact nat_trim.sem_w hW (by omega) k hk
theorem nat_trim.ev {l : List Int} (hW : Num.Ws l) (hl : l.length < 35184372088832) : Ev (fun k => nat_trim.f k l) (Num.nd (Num.nv l)) := ⟨l.length + 1, fun k hk => nat_trim.sem_w hW hl k (by omega)⟩
theorem nat_trim.u64w {n : Int} (h0 : 0 ≤ n) (h1 : n < 18446744073709551616) : IntKind.u64.wrap n = n := by
  have : IntKind.u64.wrap n = n % 18446744073709551616 := by simp [IntKind.wrap, IntKind.bits, IntKind.signed]
  rw [this]; omega
theorem nat_trim.w64 {n : Int} (h0 : -9223372036854775808 ≤ n) (h1 : n < 9223372036854775808) : wrap64 n = n := by unfold wrap64; omega
/- Numbers of the machine that fit: each said of natural numbers, so that no arithmetic is done beside the machine's words. -/
theorem w64_nat (n : Nat) (h : n < 9223372036854775808) : wrap64 (n : Int) = (n : Int) := nat_trim.w64 (by omega) (by omega)
theorem w64_add (a b : Nat) (h : a + b < 9223372036854775808) : wrap64 ((a : Int) + (b : Int)) = ((a + b : Nat) : Int) := by rw [nat_trim.w64 (by omega) (by omega)]; omega
theorem w64_succ (a : Nat) (h : a + 1 < 9223372036854775808) : wrap64 ((a : Int) + 1) = ((a + 1 : Nat) : Int) := by rw [nat_trim.w64 (by omega) (by omega)]; omega
theorem w64_pred (a : Nat) (h1 : 1 ≤ a) (h : a < 9223372036854775808) : wrap64 ((a : Int) - 1) = ((a - 1 : Nat) : Int) := by rw [nat_trim.w64 (by omega) (by omega)]; omega
theorem w64_sub (a b : Nat) (h1 : b ≤ a) (h : a < 9223372036854775808) : wrap64 ((a : Int) - (b : Int)) = ((a - b : Nat) : Int) := by rw [nat_trim.w64 (by omega) (by omega)]; omega
theorem w64_mul (a b : Nat) (h : a * b < 9223372036854775808) : wrap64 ((a : Int) * (b : Int)) = ((a * b : Nat) : Int) := by rw [← Int.natCast_mul]; exact w64_nat _ h
theorem u64_nat (n : Nat) (h : n < 18446744073709551616) : IntKind.u64.wrap (n : Int) = (n : Int) := nat_trim.u64w (by omega) (by omega)
theorem u64_add (a b : Nat) (h : a + b < 18446744073709551616) : IntKind.u64.wrap ((a : Int) + (b : Int)) = ((a + b : Nat) : Int) := by rw [nat_trim.u64w (by omega) (by omega)]; omega
theorem u64_mul (a b : Nat) (h : a * b < 18446744073709551616) : IntKind.u64.wrap ((a : Int) * (b : Int)) = ((a * b : Nat) : Int) := by rw [← Int.natCast_mul]; exact u64_nat _ h
theorem mod32_nat (n : Nat) : (n : Int) % 4294967296 = ((n % 4294967296 : Nat) : Int) := by omega
theorem div32_nat (n : Nat) : (n : Int) / 4294967296 = ((n / 4294967296 : Nat) : Int) := by omega
theorem shl64_nat (p r : Nat) (hp : p < 4294967296) (hr : r ≤ 31) : shl .u64 (p : Int) (r : Int) = ((p * 2 ^ r : Nat) : Int) := by
  have hR : 2 ^ r ≤ 2147483648 := Nat.le_trans (Nat.pow_le_pow_right (n := 2) (by omega) hr) (by decide)
  have h64 : p * 2 ^ r < 18446744073709551616 := by
    have := Nat.mul_le_mul (show p ≤ 4294967296 from by omega) hR
    omega
  have e : (p : Int) * 2 ^ r = ((p * 2 ^ r : Nat) : Int) := by rw [Int.natCast_mul, Int.natCast_pow]; rfl
  unfold shl
  rw [Int.toNat_natCast, show min r IntKind.u64.bits = r from Nat.min_eq_left (show r ≤ 64 from by omega), e]
  exact u64_nat _ h64
theorem rd_nat (l : List Int) (i : Nat) : rd l (i : Int) = l.getD i 0 := by simp [rd]
theorem rd_at {l : List Int} {i p : Nat} (h : (p : Int) = l.getD i 0) : rd l (i : Int) = (p : Int) := by rw [h]; simp [rd]

end Go.Proofs.Ytmodmjeibbgdgaa.PR

end
section
-- PRINTED by print.py (a twelfth state) out of the translation. Not trusted: Lean checks it.
namespace Go.Proofs.Ytmodmjeibbgdgaa.PR
open Go.RowKit Go.Proofs.YtmodmjeibbgdgaaW.PrintWords Go.Proofs.YtmodmjeibbgdgaaW.PrintLast Go.Proofs.YtmodmjeibbgdgaaW.PrintMore
attribute [local go_sem] max2_int min2_int max_two min_two max_three min_three max_four min_four   -- for this text's walks alone
set_option linter.unusedVariables false
set_option linter.unusedSimpArgs false

/-! ### nat_Of: function 18 -/
def nat_Of.f (k : Nat) (a0 : Int) : Option (List Int) := (nat_trim.f k (([(a0) % 4294967296, (a0 / 4294967296) % 4294967296] : List Int))).bind fun t119 => (some t119)
theorem nat_Of.mono : ∀ a0 k, LeO (nat_Of.f k a0) (nat_Of.f (k + 1) a0) := by
  intro a0 k
  unfold nat_Of.f
  repeat' first
      | (with_reducible exact nat_trim.mono _ _)
      | (with_reducible exact LeO.refl _)
      | (with_reducible exact LeO.none _)
      | (with_reducible refine LeO.ite ?_ ?_)
      | (with_reducible refine LeO.bind ?_ (fun _ => ?_))
      | exact nat_trim.mono _ _
      | exact LeO.none _
      | refine LeO.ite ?_ ?_
      | refine LeO.bind ?_ (fun _ => ?_)
set_option maxHeartbeats 8000000 in
set_option maxRecDepth 100000 in
theorem nat_Of.calls (k : Nat) (a0 : Int) (r : List Int) (w : World) (h : nat_Of.f k a0 = some r) :
    Calls Try.prog 18 #[.int .u64 a0] w fun e w' => ∃ v0_ : Value, e = .returned (v0_) ∧ Kd.R (Kd.int .u32) 33 w' w.heap.size (fun _ => True) v0_ r ∧ Below w.heap.size w w' := by
  have HB := Aside0.mk (Below.refl w.heap.size w)
  have H : ((nat_trim.f k (([(a0) % 4294967296, (a0 / 4294967296) % 4294967296] : List Int))).bind fun t119 => (some t119)) = some r := h
  clear h
  obtain ⟨y116, hy116⟩ : ∃ y_ : List Int, y_ = (([(a0) % 4294967296, (a0 / 4294967296) % 4294967296] : List Int)) := ⟨_, rfl⟩
  replace H : ((nat_trim.f k y116).bind fun t119 => (some t119)) = some r := by first | (rw [hy116]; with_reducible exact H) | (have H2_ := (Option.bind_some _ _).symm.trans H; rw [hy116]; with_reducible exact H2_) | (have H2_ := (Option.bind_some _ _).symm.trans H; with_reducible exact H2_) | with_reducible exact H | (rw [hy116]; exact H) | exact H
  have Ny116 := Aside0.mk hy116
  clear hy116
  replace H := Option.bind_eq_some_iff.mp H
  obtain ⟨t119, A20, H⟩ := H
  replace H : (some t119) = some r := H
  have A2 := Aside0.mk A20
  clear A20
  obtain rfl := Option.some.inj H
  go_enter Try.func18, Try.ntmps18
  go_wp2_with (first | ((with_reducible refine gate_dst (N := 8) rfl ?_); refine Kd.R_lit (Kd.int .u32) _ 33 ?hg (N := 8) ?hd (xs := ([(a0) % 4294967296, (a0 / 4294967296) % 4294967296] : List Int)) (inner := [.int .u32 ((a0) % 4294967296), .int .u32 ((a0 / 4294967296) % 4294967296)]) (ok := fun _ => True) (okp := fun _ => True) ?hr ?hp (fun _ hk => hk) trivial (Below.refl _ _) (Nat.le_refl _) (by simp) ?_; (case hd => rfl); (case hg => rfl); (case hr => first | (go_simp; done) | (go_simp; rfl)); (case hp => exact (Reps.one (show Kd.M (Kd.int .u32) _ _ _ ((a0) % 4294967296) [.int .u32 ((a0) % 4294967296)] from rfl) (Reps.one (show Kd.M (Kd.int .u32) _ _ _ ((a0 / 4294967296) % 4294967296) [.int .u32 ((a0 / 4294967296) % 4294967296)] from rfl) (Reps.none _ _)))); intro v117 w3 ho4 hb hg_ hnew_; clear hg_ hnew_; (first | rw [← Ny116.out] at ho4 | (simp only [Int.reduceToNat] at ho4; rw [← Ny116.out] at ho4)); have n0_ := Aside0.mk (Kd.R_lower ho4 (below_size (by repeat (first | (with_reducible first | exact HB.out | apply below_alloc | apply pw_below_drewN | apply below_drew1) | exact HB.out)))); have n1_ := Aside0.mk (below_step (by repeat (first | (with_reducible first | exact HB.out | apply below_alloc | apply pw_below_drewN | apply below_drew1) | exact HB.out)) hb); clear HB; have HO118 := n0_; have HB := n1_; clear n0_ n1_; clear hb ho4; obtain ⟨Ao5, co5, eo5⟩ := Kd.R_slice HO118.out; subst eo5) | ((with_reducible refine gate_callee (f := 38) rfl ?_); refine goesL_ (some 9) rfl rfl Try.func38 (by kernel_rfl) rfl #[.slice Ao5 y116.length co5] rfl (by (try simp only [List.map_toArray, List.map_cons, List.map_nil]); first | done | rfl | (simp only [List.length_drop, List.length_take]; rfl)) ?_; (with_reducible refine (nat_trim.calls k _ _ y116 t119 _ ?side1 ?side2 A2.out).mono ?_); (case side1 => repeat (first | exact (Kd.R_reads' HO118.out).2.2 | (with_reducible refine Kd.C_alloc ?_ _) | (with_reducible refine Kd.C_drewN ?_ _) | (with_reducible refine Kd.C_drew ?_))); (case side2 => exact (Kd.R_reads' HO118.out).2.1); rintro e w6 ⟨v120, rfl, ho0, hb⟩; refine ⟨_, rfl, ?_⟩; have n0_ := Aside0.mk (Kd.R_elder' (by (with_reducible repeat (first | apply Kd.R_alloc | apply Kd.R_drewN | apply Kd.R_drew)); exact HO118.out) (Kd.R_base ho0) hb); have n1_ := Aside0.mk (Kd.R_lower (Kd.R_new' ho0 (Kd.R_lt (by (with_reducible repeat (first | apply Kd.R_alloc | apply Kd.R_drewN | apply Kd.R_drew)); exact HO118.out))) (below_size (by repeat (first | (with_reducible first | exact HB.out | apply below_alloc | apply pw_below_drewN | apply below_drew1) | exact HB.out)))); have n2_ := Aside0.mk (below_step (by repeat (first | (with_reducible first | exact HB.out | apply below_alloc | apply pw_below_drewN | apply below_drew1) | exact HB.out)) hb); clear HO118; clear HB; have HO118 := n0_; have HO121 := n1_; have HB := n2_; clear n0_ n1_ n2_; (try clear hb); (try clear hb2); (try clear hk); (try clear hi); (try clear ho0)))
  go_ret
  exact ⟨_, by first | rfl | (simp [errW_none, errW_some] <;> rfl) | (simp [*, errW_none, errW_some] <;> rfl), by (with_reducible repeat (first | apply Kd.R_alloc | apply Kd.R_drewN | apply Kd.R_drew)); exact Kd.R_mono HO121.out (fun _ hk => trivial), by repeat (first | (with_reducible first | exact HB.out | apply below_alloc | apply pw_below_drewN | apply below_drew1) | exact HB.out)⟩

theorem nat_Of.ev (n : Nat) (h : n < 18446744073709551616) : Ev (fun k => nat_Of.f k (n : Int)) (Num.nd n) := by
  have hW : Num.Ws [(n : Int) % 4294967296, ((n : Int) / 4294967296) % 4294967296] := Num.Ws.cons (by omega) (by omega) (Num.Ws.cons (by omega) (by omega) Num.Ws.nil)
  have hv : Num.nv [(n : Int) % 4294967296, ((n : Int) / 4294967296) % 4294967296] = n := by simp only [Num.nv]; omega
  have := nat_trim.ev hW (by simp)
  rw [hv] at this
  unfold nat_Of.f
  exact Ev.bind this (Ev.now _)

end Go.Proofs.Ytmodmjeibbgdgaa.PR

end
section
-- PRINTED by print.py (a twelfth state) out of the translation. Not trusted: Lean checks it.
namespace Go.Proofs.Ytmodmjeibbgdgaa.PR
open Go.RowKit Go.Proofs.YtmodmjeibbgdgaaW.PrintWords Go.Proofs.YtmodmjeibbgdgaaW.PrintLast Go.Proofs.YtmodmjeibbgdgaaW.PrintMore
attribute [local go_sem] max2_int min2_int max_two min_two max_three min_three max_four min_four   -- for this text's walks alone
set_option linter.unusedVariables false
set_option linter.unusedSimpArgs false

-- NOT PRINTED: function 39 (nat_Nat_uint32_39)

end Go.Proofs.Ytmodmjeibbgdgaa.PR

end
section
-- PRINTED by print.py (a twelfth state) out of the translation. Not trusted: Lean checks it.
namespace Go.Proofs.Ytmodmjeibbgdgaa.PR
open Go.RowKit Go.Proofs.YtmodmjeibbgdgaaW.PrintWords Go.Proofs.YtmodmjeibbgdgaaW.PrintLast Go.Proofs.YtmodmjeibbgdgaaW.PrintMore
attribute [local go_sem] max2_int min2_int max_two min_two max_three min_three max_four min_four   -- for this text's walks alone
set_option linter.unusedVariables false
set_option linter.unusedSimpArgs false

/-! ### nat_Compare: function 19 -/
def nat_Compare.f (_k : Nat) (l0 : List Int) (l1 : List Int) : Option (Int) := if Num.okw l0 = true then (if Num.okw l1 = true then some (Num.cmp (Num.nv l0) (Num.nv l1)) else none) else none
theorem nat_Compare.mono : ∀ a0 a1 k, LeO (nat_Compare.f k a0 a1) (nat_Compare.f (k + 1) a0 a1) := fun _ _ _ => LeO.refl _
theorem nat_Compare.drop_eq {a b : List Int} (hl : a.length = b.length) (k : Nat) (hk : k ≤ a.length) (he : ∀ p ∈ List.range k, Back.wd a p = b[Back.ix a.length p]?.getD 0) : a.drop (a.length - k) = b.drop (a.length - k) := by
  apply List.ext_getElem
  · simp [hl]
  · intro i h1 h2
    rw [List.length_drop] at h1
    have hp := he (k - 1 - i) (List.mem_range.2 (by omega))
    have hi : a.length - 1 - (k - 1 - i) = a.length - k + i := by omega
    simp only [Back.wd, Back.ix, hi] at hp
    rw [List.getElem?_eq_getElem (by omega), List.getElem?_eq_getElem (by omega)] at hp
    simpa using hp
theorem nat_Compare.at_stop {a b : List Int} (ha : Num.Ws a) (hb : Num.Ws b) (hl : a.length = b.length) (k : Nat) (hk : k < a.length) (he : ∀ p ∈ List.range k, Back.wd a p = b[Back.ix a.length p]?.getD 0) (hne : Back.wd a k ≠ b[Back.ix a.length k]?.getD 0) :
    (if Back.wd a k < b[Back.ix a.length k]?.getD 0 then -1 else 1) = Num.cmp (Num.nv a) (Num.nv b) := by
  have hd := nat_Compare.drop_eq hl k (by omega) he
  have hq : a.length - 1 - k + 1 = a.length - k := by omega
  by_cases h : Back.wd a k < b[Back.ix a.length k]?.getD 0
  · rw [if_pos h, Num.cmp_lt (Num.nv_lt_of_at ha hb (a.length - 1 - k) (by omega) (by omega) (by rw [hq]; exact hd) (by simpa [Back.wd, Back.ix, List.getD_eq_getElem?_getD] using h))]
  · rw [if_neg h, Num.cmp_gt (Num.nv_lt_of_at hb ha (a.length - 1 - k) (by omega) (by omega) (by rw [hq]; exact hd.symm) (by simp only [Back.wd, Back.ix] at h hne; simp only [List.getD_eq_getElem?_getD]; omega))]
open Go.Shelf Back in
attribute [local go_sem] Oper.semAt_some in
set_option maxHeartbeats 1000000 in
set_option maxRecDepth 100000 in
theorem nat_Compare.calls (k : Nat) (A0 : Option Addr) (c0 : Nat) (l0 : List Int) (A1 : Option Addr) (c1 : Nat) (l1 : List Int) (r : Int) (w : World) (hr0 : Kd.C (Kd.int .u32) w A0 l0.length l0) (hc0 : l0.length ≤ c0) (hr1 : Kd.C (Kd.int .u32) w A1 l1.length l1) (hc1 : l1.length ≤ c1) (h : nat_Compare.f k l0 l1 = some r) :
    Calls Try.prog 19 #[.slice A0 l0.length c0, .slice A1 l1.length c1] w fun e w' => e = .returned (.int .i64 r) ∧ Below w.heap.size w w' := by
  have hok0 : Num.okw l0 = true := by
    unfold nat_Compare.f at h
    split at h
    · assumption
    · cases h
  have hok1 : Num.okw l1 = true := by
    unfold nat_Compare.f at h
    rw [if_pos hok0] at h
    split at h
    · assumption
    · cases h
  obtain rfl : Num.cmp (Num.nv l0) (Num.nv l1) = r := by
    unfold nat_Compare.f at h
    rw [if_pos hok0, if_pos hok1] at h
    exact Option.some.inj h
  have ht0 := nat_trim.sem hok0 (l0.length + 1) (by omega)
  have ht1 := nat_trim.sem hok1 (l1.length + 1) (by omega)
  obtain ⟨z0, hz0⟩ : ∃ z, z = Num.nd (Num.nv l0) := ⟨_, rfl⟩
  obtain ⟨z1, hz1⟩ : ∃ z, z = Num.nd (Num.nv l1) := ⟨_, rfl⟩
  have hn0 := Num.okw_nd_length hok0
  have hn1 := Num.okw_nd_length hok1
  rw [← hz0] at ht0 hn0
  rw [← hz1] at hn1
  rw [← hz1] at ht1
  have HT0 := Aside0.mk ht0
  have HT1 := Aside0.mk ht1
  have HR0 := Aside0.mk hr0
  have HC0 := Aside0.mk hc0
  have HR1 := Aside0.mk hr1
  have HC1 := Aside0.mk hc1
  have HZ0 := Aside0.mk hz0
  have HZ1 := Aside0.mk hz1
  clear ht0 ht1 hr0 hc0 hr1 hc1 hz0 hz1 h hok0 hok1
  have hB0 : Below w.heap.size w ((w.alloc (.cells #[.slice A1 l1.length c1] 23)).alloc (.cells #[.int .i64 0] 3)) := ((Below.refl _ w).alloc (Nat.le_refl _) _).alloc (by simp) _
  have bB := (Boxed.new w 23 (.slice A1 l1.length c1)).alloc (.cells #[.int .i64 0] 3)
  have bR := Boxed.new (w.alloc (.cells #[.slice A1 l1.length c1] 23)) 3 (.int .i64 0)
  rw [World.size_alloc] at bR
  refine (callsIn_wide (n := 3)).1 ?_
  refine callsIn_of_wp_marks Try.func19 rfl trivial ?_ rfl
  simp only [Try.ntmps19, List.size_toArray, List.length_cons, List.length_nil, Nat.reduceAdd, Nat.reduceSub, Array.replicate_succ, Array.replicate_zero, List.push_toArray, List.append_toArray, List.nil_append, List.cons_append]
  gi_wp2
  have hcb0 := bB.cell
  have hsz0 : ((w.alloc (.cells #[.slice A1 l1.length c1] 23)).alloc (.cells #[.int .i64 0] 3)).heap.size = w.heap.size + 2 := by simp
  generalize ((w.alloc (.cells #[.slice A1 l1.length c1] 23)).alloc (.cells #[.int .i64 0] 3)) = w0 at hB0 bB bR hcb0 hsz0 ⊢
  refine wpIn_noPanic ?_
  have hlt0 : w.heap.size < w0.heap.size := bB.lt
  gi_region_with (first | (refine ⟨trivial, ?_⟩; gi_at_call 38; (with_reducible refine (callsIn_wide.2 (nat_trim.calls _ _ _ l0 _ _ (Kd.C_below HR0.out hB0.drew) HC0.out HT0.out)).mono ?_); rintro e w1 ⟨v0, rfl, ho0, hb0⟩; obtain ⟨Az0, cz0, hv0⟩ := Kd.R_slice ho0; subst hv0; have hB1 : Below w.heap.size w w1 := hB0.drew.trans (hb0.mono hB0.size); have bB1 : Boxed w1 w.heap.size 23 (.slice A1 l1.length c1) := (hb0.block _ hlt0).trans bB; have hcb1 := bB1.cell) | (refine ⟨trivial, ?_⟩; gi_at_call 38; (with_reducible refine (callsIn_wide.2 (nat_trim.calls _ _ _ l1 _ _ (Kd.C_below HR1.out hB1) HC1.out HT1.out)).mono ?_); rintro e w2 ⟨v1, rfl, ho1, hb1⟩; obtain ⟨Az1, cz1, hv1⟩ := Kd.R_slice ho1; subst hv1; have bB2 : Boxed w2 w.heap.size 23 (.slice A1 l1.length c1) := (hb1.block _ bB1.lt).trans bB1; have hcb2 := bB2.cell; have hfb2 := bB2.frozen))
  all_goals
    refine noPanic_then ?_
    have hs0 : w0.drew.heap.size = w0.heap.size := rfl
    have hs1 := hb0.size
    have hs2 := hb1.size
    have R03 := Kd.R_far (p := ⟨w.heap.size, 0, none⟩) (Kd.R_mono (Kd.R_bound (Kd.R_below ho0 hb1)) (ok' := fun k => w0.heap.size ≤ k) (fun k hk => hk.2.1)) (fun k hk => by simp only; omega) (.slice Az1 z1.length cz1)
    have R13 := Kd.R_far (p := ⟨w.heap.size, 0, none⟩) (Kd.R_mono (Kd.R_bound ho1) (ok' := fun k => w1.heap.size ≤ k) (fun k hk => hk.2.1)) (fun k hk => by simp only; omega) (.slice Az1 z1.length cz1)
    have hB3 : Below w.heap.size w (w2.setCell ⟨w.heap.size, 0, none⟩ (.slice Az1 z1.length cz1)) := (hB1.trans (hb1.mono (by omega))).setCell (p := ⟨w.heap.size, 0, none⟩) (Nat.le_refl _) _
    have bB3 := bB2.set (.slice Az1 z1.length cz1)
    have bR3 : Boxed (w2.setCell ⟨w.heap.size, 0, none⟩ (.slice Az1 z1.length cz1)) (w.heap.size + 1) 3 (.int .i64 0) := (Below.heap_setCell _ _ _ _ (by simp)).trans ((hb1.block _ (by omega)).trans ((hb0.block _ (by omega)).trans bR))
    have hs3 : w2.heap.size = (w2.setCell ⟨w.heap.size, 0, none⟩ (.slice Az1 z1.length cz1)).heap.size := by simp [World.setCell]
    generalize w2.setCell ⟨w.heap.size, 0, none⟩ (.slice Az1 z1.length cz1) = W3 at R03 R13 hB3 bB3 bR3 hs3 ⊢
    have hc3 := bB3.cell
    have hcr3 := bR3.cell
    have hfr3 := bR3.frozen
    clear bB2 hcb2 hfb2 bB1 hcb1 hcb0 bB bR
    have hc5 : ∀ x, (W3.setCell ⟨w.heap.size + 1, 0, none⟩ (.int .i64 x)).cell? ⟨w.heap.size + 1, 0, none⟩ = some (.int .i64 x) := fun x => World.cell?_setCell_same' _ _ _ (by rw [hcr3]; rfl)
    have HC5 := Aside0.mk hc5
    clear hc5
    rcases Nat.lt_trichotomy z0.length z1.length with hl | hl | hl
    · gi_wp2
      all_goals
        have hcmp : Num.cmp (Num.nv l0) (Num.nv l1) = -1 := Num.cmp_lt (Num.lt_of_len (by rw [← HZ0.out, ← HZ1.out]; exact hl))
        refine ⟨.int .i64 (-1), ?_, by rw [hcmp], hB3.setCell (p := ⟨w.heap.size + 1, 0, none⟩) (by simp) _⟩
        have hc5 := HC5.out
        simp [results, Try.f19, go_sem, hc5]
        try omega
    · have HL := Aside0.mk hl
      gi_wp2_with (refine ⟨trivial, ?_⟩; gi_at_call 39; refine (back_in Fence.wide _ trivial rfl _ _ _ _).mono ?_; rintro e w4 ⟨rfl, rfl⟩)
      have row0 := (Row.ofR R03 (Nat.le_refl _)).below ((Below.refl W3.heap.size W3).alloc (Nat.le_refl _) (.cells #[.slice Az0 z0.length cz0] 23))
      have row1 := Row.ofR R13 (Nat.le_refl _)
      rw [hl] at row0
      have bS := Boxed.new W3 23 (.slice Az0 z1.length cz0)
      clear R03 R13 hl
      refine wpIn_rangeFunc_ownG (F := Fence.wide) (n := 3) rfl (by omega) (gf := 47) (lb := #[.pointer (some ⟨W3.heap.size, 0, none⟩)]) rfl trivial (enters_of Try.func47 (by kernel_rfl) rfl)
        (back_stops Fence.wide _ trivial rfl (by omega) W3.heap.size W3.heap.size _ z0 (by omega) _ (by simp) (by simp) bS.cell row0) KB.trans (KB.putObj (by simp) (by simp)) (Below.refl _ _) (fun _ => rfl)
        (fun pre W => (∀ p ∈ pre, wd z0 p = z1[ix z0.length p]?.getD 0) ∧ Below W3.heap.size W3 W)
        (fun c pre W => (c = .ret ∧ ∃ ini j, pre = ini ++ [j] ∧ (∀ p ∈ ini, wd z0 p = z1[ix z0.length p]?.getD 0) ∧ wd z0 j ≠ z1[ix z0.length j]?.getD 0 ∧ W.cell? ⟨w.heap.size + 1, 0, none⟩ = some (.int .i64 (if wd z0 j < z1[ix z0.length j]?.getD 0 then -1 else 1))) ∧ Below w.heap.size w W)
        (OwnFrom.and (Own.from (fun s A B row hs hg hr => hs) _) (ownFrom_below (Nat.le_refl _) (by simp)))
        (fun c => OwnFrom.and (Own.from (fun s A B row hs hg hr => by obtain ⟨hc, ini, j, e1, e2, e3, e4⟩ := hs; exact ⟨hc, ini, j, e1, e2, e3, cell_kept e4 hg hr⟩) _) (ownFrom_below (Nat.le_refl _) (by simp; omega)))
        ⟨by simp, (Below.refl _ _).alloc (Nat.le_refl _) _⟩
        (fun x => { tmps := #[.slice Az0 z1.length cz0, .slice A1 l1.length c1, undef, .pointer (some ⟨w.heap.size, 0, none⟩), .pointer (some ⟨w.heap.size + 1, 0, none⟩), .int .i64 (ix z0.length x : Int), .int .u32 (wd z0 x), .slice A0 l0.length c0, .slice Az0 z1.length cz0, .slice A1 l1.length c1, .slice Az1 z1.length cz1, .slice Az0 z1.length cz0, .int .i64 (z1.length : Int), .slice Az1 z1.length cz1, .int .i64 (z1.length : Int), .bool false, undef, undef, undef, undef, undef, undef, undef, .slice Az0 z1.length cz0, .func (.func 47) #[] #[.pointer (some ⟨W3.heap.size, 0, none⟩)], .int .i64 (ix z0.length x : Int), .int .u32 (wd z0 x), undef, undef, undef, undef, undef, undef, undef, undef, undef, undef, undef, undef, undef, undef], defers := [] }) ?assign ?body ?done ?stop
      case assign =>
        intro l x W K hK
        gi_wp2
        exact hK
      case body =>
        rintro l pre x W ⟨hp, hB⟩ hlt
        have hz : ix z0.length x < z1.length := by unfold ix; have := HL.out; omega
        rcases row1 with ⟨_, rfl⟩ | ⟨b, off, cap, e, hb, hcs⟩
        · simp at hz
        · cases e
          have hcz := (hB.cell (p := ⟨b, off + ix z0.length x, none⟩) hb).trans (hcs _ hz)
          have hcb := (hB.cell (p := ⟨w.heap.size, 0, none⟩) bB3.lt).trans hc3
          have hcr := (hB.cell (p := ⟨w.heap.size + 1, 0, none⟩) bR3.lt).trans hcr3
          have hfr := (hB.frozen (p := ⟨w.heap.size + 1, 0, none⟩) bR3.lt).trans hfr3
          obtain ⟨y, hy⟩ : ∃ y, y = z1[ix z0.length x]?.getD 0 := ⟨_, rfl⟩
          obtain ⟨u, hu⟩ : ∃ u, u = wd z0 x := ⟨_, rfl⟩
          obtain ⟨q, hq⟩ : ∃ q, q = ix z0.length x := ⟨_, rfl⟩
          rw [← hy] at hcz
          rw [← hu]
          rw [← hq] at hz hcz ⊢
          have HY := Aside0.mk hy
          have HU := Aside0.mk hu
          have HP := Aside0.mk hp
          have HB := Aside0.mk hB
          have HCR := Aside0.mk hcr
          clear hy hu hq hp hB hcs
          have hq0 : (0 : Int) ≤ (q : Int) := by omega
          rcases Int.lt_trichotomy u y with h | h | h
          · gi_wp2
            exact ⟨(KeepsOthers.setCell _ _ _).from _, ⟨rfl, pre, x, rfl, HP.out, by rw [← HU.out, ← HY.out]; omega, by rw [← HU.out, ← HY.out, if_pos h]; exact World.cell?_setCell_same' _ _ _ (by rw [HCR.out]; rfl)⟩, (hB3.trans (HB.out.mono hB3.size)).setCell (p := ⟨w.heap.size + 1, 0, none⟩) (by simp) _⟩
          · have h1 : ¬ u < y := by omega
            have h2 : ¬ y < u := by omega
            have H := Aside0.mk h
            clear h
            gi_wp2
            exact ⟨KeepsFrom.refl _ _, KB.refl _ _ _, fun p hp' => (List.mem_append.1 hp').elim (HP.out p) (fun e => by simp at e; subst e; rw [← HU.out, ← HY.out]; exact H.out), HB.out⟩
          · gi_wp2
            exact ⟨(KeepsOthers.setCell _ _ _).from _, ⟨rfl, pre, x, rfl, HP.out, by rw [← HU.out, ← HY.out]; omega, by rw [← HU.out, ← HY.out, if_neg (by omega)]; exact World.cell?_setCell_same' _ _ _ (by rw [HCR.out]; rfl)⟩, (hB3.trans (HB.out.mono hB3.size)).setCell (p := ⟨w.heap.size + 1, 0, none⟩) (by simp) _⟩
      case done =>
        rintro D ys W hD rfl ⟨hne, hB⟩ hK
        have hcr := (hB.cell (p := ⟨w.heap.size + 1, 0, none⟩) bR3.lt).trans hcr3
        have hfr := (hB.frozen (p := ⟨w.heap.size + 1, 0, none⟩) bR3.lt).trans hfr3
        have HNE := Aside0.mk hne
        clear hne
        gi_wp2
        have hK' := (KeepsOthers.setCell W ⟨w.heap.size + 1, 0, none⟩ (.int .i64 0)).same D _ hK rfl
        refine ⟨by simp, .inl ⟨_, _, rfl, run_takeDeferred hK', ?_⟩⟩
        have hc5 := cell_kept (World.cell?_setCell_same' W ⟨w.heap.size + 1, 0, none⟩ (.int .i64 0) (by rw [hcr]; rfl)) (grownBy_putObj' _ D (.deferred none)) (fun r e => by cases e; exact ⟨_, hK', rfl⟩)
        have heq : z0 = z1 := by
          have := nat_Compare.drop_eq HL.out z0.length (Nat.le_refl _) HNE.out
          simpa using this
        have hcmp : Num.cmp (Num.nv l0) (Num.nv l1) = 0 := Num.cmp_eq (by rw [← Num.nv_nd (Num.nv l0), ← Num.nv_nd (Num.nv l1), ← HZ0.out, ← HZ1.out, heq])
        refine ⟨.int .i64 0, ?_, by rw [hcmp], ((hB3.trans (hB.mono hB3.size)).setCell (p := ⟨w.heap.size + 1, 0, none⟩) (by simp) _).trans (belowK_b (w := w) (Nat.le_refl _) _ D _ _ (by simp at hD; omega) hK' rfl rfl)⟩
        simp [results, Try.f19, go_sem, hc5]
      case stop =>
        rintro D c pre W hD ⟨k', hk', rfl⟩ ⟨⟨rfl, ini, j, e1, e2, e3, hcr⟩, hB⟩ hK
        gi_wp2
        refine ⟨by simp, .inl ⟨_, _, rfl, run_takeDeferred hK, ?_⟩⟩
        have hc5 := cell_kept hcr (grownBy_putObj' _ D (.deferred none)) (fun r e => by cases e; exact ⟨_, hK, rfl⟩)
        obtain ⟨k2, rfl⟩ : ∃ k2, k' = k2 + 1 := by
          cases k' with
          | zero => simp at e1
          | succ k2 => exact ⟨k2, rfl⟩
        rw [List.range_succ] at e1
        obtain ⟨rfl, e5⟩ := List.append_inj' e1 rfl
        obtain rfl : k2 = j := by simpa using e5
        have hcmp := nat_Compare.at_stop (by rw [HZ0.out]; exact Num.Ws_nd _) (by rw [HZ1.out]; exact Num.Ws_nd _) HL.out k2 (by omega) e2 e3
        have hv : Num.cmp (Num.nv z0) (Num.nv z1) = Num.cmp (Num.nv l0) (Num.nv l1) := by rw [HZ0.out, HZ1.out, Num.nv_nd, Num.nv_nd]
        rw [hcmp, hv] at hc5
        refine ⟨.int .i64 (Num.cmp (Num.nv l0) (Num.nv l1)), ?_, rfl, hB.trans (belowK_b (w := w) (Nat.le_refl _) W D _ _ (by simp at hD; omega) hK rfl rfl)⟩
        simp [results, Try.f19, go_sem, hc5]
    · gi_wp2
      all_goals
        have hcmp : Num.cmp (Num.nv l0) (Num.nv l1) = 1 := Num.cmp_gt (Num.lt_of_len (by rw [← HZ0.out, ← HZ1.out]; exact hl))
        refine ⟨.int .i64 1, ?_, by rw [hcmp], hB3.setCell (p := ⟨w.heap.size + 1, 0, none⟩) (by simp) _⟩
        have hc5 := HC5.out
        simp [results, Try.f19, go_sem, hc5]
        try omega

end Go.Proofs.Ytmodmjeibbgdgaa.PR

end
section
-- PRINTED by print.py (a twelfth state) out of the translation. Not trusted: Lean checks it.
namespace Go.Proofs.Ytmodmjeibbgdgaa.PR
open Go.RowKit Go.Proofs.YtmodmjeibbgdgaaW.PrintWords Go.Proofs.YtmodmjeibbgdgaaW.PrintLast Go.Proofs.YtmodmjeibbgdgaaW.PrintMore
attribute [local go_sem] max2_int min2_int max_two min_two max_three min_three max_four min_four   -- for this text's walks alone
set_option linter.unusedVariables false
set_option linter.unusedSimpArgs false

/-! ### nat_Right: function 20 -/
def nat_Right.f (l0 : List Int) : Option (Bool) := if (l0.length : Int) = 0 then (some true) else (if 0 ≤ (wrap64 ((l0.length : Int) - 1)) then (if (wrap64 ((l0.length : Int) - 1)) < (l0.length : Int) then (some ((rd l0 (wrap64 ((l0.length : Int) - 1))) != 0)) else (none)) else (none))
set_option maxHeartbeats 8000000 in
set_option maxRecDepth 100000 in
theorem nat_Right.calls (A0 : Option Addr) (c0 : Nat) (l0 : List Int) (r : Bool) (w : World) (hr0 : Kd.C (Kd.int .u32) w A0 l0.length l0) (hc0 : l0.length ≤ c0) (h : nat_Right.f l0 = some r) :
    Calls Try.prog 20 #[.slice A0 l0.length c0] w fun e w' => e = .returned (.bool r) ∧ Drawn0 w w' := by
  have HR0 := Aside0.mk hr0
  have HC0 := Aside0.mk hc0
  clear hr0 hc0
  have H : (if (l0.length : Int) = 0 then (some true) else (if 0 ≤ (wrap64 ((l0.length : Int) - 1)) then (if (wrap64 ((l0.length : Int) - 1)) < (l0.length : Int) then (some ((rd l0 (wrap64 ((l0.length : Int) - 1))) != 0)) else (none)) else (none))) = some r := h
  clear h
  by_cases c2 : (l0.length : Int) = 0
  · rw [if_pos c2] at H
    have c2b0 : ((l0.length : Int) == 0) = true := beq_iff_eq.mpr c2
    have c2b1 : ((l0.length : Int) != 0) = false := bne_eq_false_iff_eq.mpr c2
    clear c2
    obtain rfl := Option.some.inj H
    go_enter Try.func20, Try.ntmps20
    go_wp2
    go_ret
    exact ⟨by first | rfl | (simp; done) | (simp [*]; done), by repeat (first | exact Drawn0.refl _ | apply Drawn0.step)⟩
  · rw [if_neg c2] at H
    have c2b0 : ((l0.length : Int) == 0) = false := beq_eq_false_iff_ne.mpr c2
    have c2b1 : ((l0.length : Int) != 0) = true := bne_iff_ne.mpr c2
    have c2b2 : ¬ (l0 = []) := fun h_ => c2 (by rw [h_]; rfl)
    obtain ⟨ji3, hji3⟩ : ∃ j_ : Int, (wrap64 ((l0.length : Int) - 1)) = j_ := ⟨_, rfl⟩
    replace H : (if 0 ≤ (ji3) then (if (ji3) < (l0.length : Int) then (some ((rd l0 (ji3)) != 0)) else (none)) else (none)) = some r := by first | (rw [hji3] at H; exact H) | (simp only [hji3] at H ⊢; exact H)
    have hji3w : (IntKind.i64.wrap ((l0.length : Int) - 1)) = ji3 := (i64_w _).trans hji3
    by_cases c4 : 0 ≤ (ji3)
    · rw [if_pos c4] at H
      have c4b0 : decide (0 ≤ (ji3)) = true := decide_eq_true c4
      clear c4
      by_cases c5 : (ji3) < (l0.length : Int)
      · rw [if_pos c5] at H
        have c5b0 : decide ((ji3) < (l0.length : Int)) = true := decide_eq_true c5
        clear c5
        obtain rfl := Option.some.inj H
        have p128 : 0 ≤ ((ji3) : Int) := of_decide_eq_true (by first | (with_reducible assumption) | assumption)
        have q128 : (ji3) < (l0.length : Int) := of_decide_eq_true (by first | (with_reducible assumption) | assumption)
        obtain ⟨ad128, e128, hx128_0⟩ := Kd.at_int HR0.out (ji3) p128 q128
        cases e128
        replace p128 := eq_true p128
        replace q128 := eq_true q128
        go_enter Try.func20, Try.ntmps20
        go_wp2
        go_ret
        exact ⟨by first | rfl | (simp; done) | (simp only [← hji3] <;> (first | rfl | simp)) | (simp [*]; done), by repeat (first | exact Drawn0.refl _ | apply Drawn0.step)⟩
      · rw [if_neg c5] at H
        exact absurd H (by simp)
    · rw [if_neg c4] at H
      exact absurd H (by simp)

theorem nat_Right.sem {l : List Int} (h : 0 < l.length) (hl : l.length < 9223372036854775807) : nat_Right.f l = some (rd l (wrap64 ((l.length : Int) - 1)) != 0) := by
  unfold nat_Right.f
  have e := Dec.w64p l.length h (by omega)
  rw [if_neg (by omega), if_pos (by rw [e]; omega), if_pos (by rw [e]; omega)]
theorem nat_Right.nd {n : Nat} (hn : (Num.nd n).length < 9223372036854775807) : nat_Right.f (Num.nd n) = some true := by
  by_cases h : n = 0
  · subst h
    rw [Num.nd_zero]
    rfl
  · have h1 := Num.nd_last h
    have h2 : 0 < (Num.nd n).length := by
      rcases Nat.eq_zero_or_pos (Num.nd n).length with h0 | h0
      · exact absurd (Num.nd_eq_nil.1 (List.eq_nil_of_length_eq_zero h0)) h
      · exact h0
    rw [nat_Right.sem h2 hn, Dec.w64p _ h2 (by omega)]
    unfold rd
    rw [Int.toNat_natCast]
    congr 1
    simpa using h1

end Go.Proofs.Ytmodmjeibbgdgaa.PR

end
section
-- PRINTED by print.py (a twelfth state) out of the translation. Not trusted: Lean checks it.
namespace Go.Proofs.Ytmodmjeibbgdgaa.PR
open Go.RowKit Go.Proofs.YtmodmjeibbgdgaaW.PrintWords Go.Proofs.YtmodmjeibbgdgaaW.PrintLast Go.Proofs.YtmodmjeibbgdgaaW.PrintMore
attribute [local go_sem] max2_int min2_int max_two min_two max_three min_three max_four min_four   -- for this text's walks alone
set_option linter.unusedVariables false
set_option linter.unusedSimpArgs false

/-! ### nat_Small: function 16 -/
def nat_Small.f (_k : Nat) (l0 : List Int) : Option (Int × Bool) := if Num.okw l0 = true then (if Num.nv l0 < 18446744073709551616 then some ((Num.nv l0 : Int), true) else some (0, false)) else none
theorem nat_Small.mono : ∀ a0 k, LeO (nat_Small.f k a0) (nat_Small.f (k + 1) a0) := fun _ _ => LeO.refl _
/-- What the loop reckons. -/
def nat_Small.go (z : List Int) (pre : List Nat) : Int := pre.foldl (fun s j => Go.bits .or .u64 (IntKind.u64.wrap (s * 4294967296)) (IntKind.u64.wrap (Back.wd z j))) 0
theorem nat_Small.go_snoc (z : List Int) (pre : List Nat) (x : Nat) : nat_Small.go z (pre ++ [x]) = Go.bits .or .u64 (IntKind.u64.wrap (nat_Small.go z pre * 4294967296)) (IntKind.u64.wrap (Back.wd z x)) := by simp [nat_Small.go]
theorem nat_Small.wrap_u64 (n : Int) : IntKind.u64.wrap n = n % 18446744073709551616 := by simp [IntKind.wrap, IntKind.bits, IntKind.signed]
theorem nat_Small.join (x y : Int) (h0 : 0 ≤ x) (h1 : x < 4294967296) (h2 : 0 ≤ y) (h3 : y < 4294967296) : Go.bits .or .u64 (IntKind.u64.wrap (x * 4294967296)) (IntKind.u64.wrap y) = x * 4294967296 + y := by
  have e1 : IntKind.u64.wrap (x * 4294967296) = x * 4294967296 := by rw [nat_Small.wrap_u64]; omega
  have e2 : IntKind.u64.wrap y = y := by rw [nat_Small.wrap_u64]; omega
  rw [e1, e2]
  exact bits_join .u64 64 (by decide) (fun n a b => by rw [nat_Small.wrap_u64]; omega) 32 _ _ (by omega) (by omega) (by omega) h2 (by omega) (by omega)
theorem nat_Small.go_all {z : List Int} (hW : Num.Ws z) (hl : z.length ≤ 2) : nat_Small.go z (List.range z.length) = (Num.nv z : Int) := by
  match z, hW, hl with
  | [], _, _ => rfl
  | [x], hW, _ =>
    have hx := hW.head
    have := nat_Small.join 0 x (by omega) (by omega) hx.1 hx.2
    simp [Back.wd, Back.ix, nat_Small.go, Num.nv, List.range_succ] at this ⊢
    rw [this]
    omega
  | [x, y], hW, _ =>
    have hx := hW.head
    have hy := hW.tail.head
    have a := nat_Small.join 0 y (by omega) (by omega) hy.1 hy.2
    have b := nat_Small.join y x hy.1 hy.2 hx.1 hx.2
    simp [Back.wd, Back.ix, nat_Small.go, Num.nv, List.range_succ] at a b ⊢
    rw [a, b]
    omega
open Go.Shelf Back in
attribute [local go_sem] Oper.semAt_some in
set_option maxHeartbeats 8000000 in
set_option maxRecDepth 100000 in
theorem nat_Small.calls (k : Nat) (A0 : Option Addr) (c0 : Nat) (l0 : List Int) (r1 : Int) (r2 : Bool) (w : World) (hr0 : Kd.C (Kd.int .u32) w A0 l0.length l0) (hc0 : l0.length ≤ c0) (h : nat_Small.f k l0 = some (r1, r2)) :
    Calls Try.prog 16 #[.slice A0 l0.length c0] w fun e w' => e = .returned (.tuple #[.int .u64 r1, .bool r2]) ∧ Below w.heap.size w w' := by
  have hok : Num.okw l0 = true := by
    unfold nat_Small.f at h
    split at h
    · assumption
    · cases h
  have ht := nat_trim.sem hok (l0.length + 1) (by omega)
  obtain ⟨z, hz⟩ : ∃ z, z = Num.nd (Num.nv l0) := ⟨_, rfl⟩
  have hW : Num.Ws z := by rw [hz]; exact Num.Ws_nd _
  have hnv : Num.nv z = Num.nv l0 := by rw [hz, Num.nv_nd]
  rw [← hz] at ht
  have hl := Num.nv_lt hW
  have HT := Aside0.mk ht
  have HR := Aside0.mk hr0
  have HC := Aside0.mk hc0
  unfold nat_Small.f at h
  rw [if_pos hok] at h
  by_cases hs : Num.nv l0 < 18446744073709551616
  · rw [if_pos hs] at h
    obtain ⟨rfl, rfl⟩ : (Num.nv l0 : Int) = r1 ∧ true = r2 := by simpa using h
    have hz2 : z.length ≤ 2 := by
      rw [hz]
      exact Num.nd_length_le (k := 2) (by omega)
    have HN := Aside0.mk hnv
    have HZ := Aside0.mk hz
    have HW := Aside0.mk hW
    clear h ht hr0 hc0 hnv hz hs hl hok hW
    refine (callsIn_wide (n := 3)).1 ?_
    refine callsIn_of_wp_marks Try.func16 rfl trivial ?_ rfl
    simp only [Try.ntmps16, List.size_toArray, List.length_cons, List.length_nil, Nat.reduceAdd, Nat.reduceSub, Array.replicate_succ, Array.replicate_zero, List.push_toArray, List.append_toArray, List.nil_append, List.cons_append]
    gi_wp2_with (first | (refine ⟨trivial, ?_⟩; gi_at_call 38; refine (callsIn_wide.2 (nat_trim.calls _ _ _ l0 _ _ HR.out HC.out HT.out)).mono ?_; rintro e w1 ⟨v, rfl, ho, hb⟩; obtain ⟨A, c, hv⟩ := Kd.R_slice ho; subst hv) | (refine ⟨trivial, ?_⟩; gi_at_call 39; refine (back_in Fence.wide _ trivial rfl _ _ _ _).mono ?_; rintro e w2 ⟨rfl, rfl⟩))
    have hsz := hb.size
    have bN := Boxed.new w1 28 (.int .u64 0)
    have bS := Boxed.new (w1.alloc (.cells #[.int .u64 0] 28)) 23 (.slice A z.length c)
    rw [World.size_alloc] at bS
    have hB0 : Below w.heap.size w ((w1.alloc (.cells #[.int .u64 0] 28)).alloc (.cells #[.slice A z.length c] 23)) := (hb.alloc hsz _).alloc (by simp; omega) _
    have hrow := (Row.ofR ho (Nat.le_refl _)).below (((Below.refl _ w1).alloc (Nat.le_refl _) (.cells #[.int .u64 0] 28)).alloc (by simp) (.cells #[.slice A z.length c] 23))
    refine wpIn_rangeFunc_ownG (F := Fence.wide) (n := 3) rfl (by omega) (gf := 47) (lb := #[.pointer (some ⟨w1.heap.size + 1, 0, none⟩)]) rfl trivial (enters_of Try.func47 (by kernel_rfl) rfl)
      (back_stops Fence.wide _ trivial rfl (by omega) (w1.heap.size + 1) w1.heap.size _ z (by omega) _ (by simp) (by simp; omega) bS.cell hrow) KB.trans (KB.putObj (by simp; omega) (by simp)) (Below.refl _ _) (fun _ => rfl)
      (fun pre W => (W.cell? ⟨w1.heap.size, 0, none⟩ = some (.int .u64 (nat_Small.go z pre)) ∧ W.frozen? ⟨w1.heap.size, 0, none⟩ = false) ∧ Below w.heap.size w W)
      (fun _ _ _ => False)
      (OwnFrom.and (Own.from (fun s A B row hs hg hr => ⟨cell_kept hs.1 hg hr, (frozen_kept hs.1 hg hr).trans hs.2⟩) _) (ownFrom_below (Nat.le_refl _) (by simp; omega)))
      (fun _ _ _ _ _ hs _ _ => hs)
      ⟨⟨(bN.alloc _).cell, (bN.alloc _).frozen⟩, hB0⟩
      (fun x => { tmps := #[.slice A z.length c, undef, .int .u64 0, .bool false, .pointer (some ⟨w1.heap.size, 0, none⟩), undef, .int .u32 (wd z x), .slice A0 l0.length c0, .slice A z.length c, .slice A z.length c, .int .i64 (z.length : Int), .bool (decide (2 < (z.length : Int))), .slice A z.length c, .func (.func 47) #[] #[.pointer (some ⟨w1.heap.size + 1, 0, none⟩)], .int .i64 (ix z.length x : Int), .int .u32 (wd z x), undef, undef, undef, undef, undef, undef], defers := [] }) ?assign ?body ?done ?stop
    case assign =>
      intro l x W K hK
      gi_wp2
      exact hK
    case body =>
      rintro l pre x W ⟨⟨hc, hf⟩, hB⟩ _
      gi_wp2
      exact ⟨(KeepsOthers.setCell _ _ _).from _, KB.setCell (Nat.le_refl _) (by omega) _, ⟨by rw [nat_Small.go_snoc]; exact World.cell?_setCell_same' _ _ _ (by rw [hc]; rfl), by rw [World.frozen?_setCell]; exact hf⟩, hB.setCell (p := ⟨w1.heap.size, 0, none⟩) hb.size _⟩
    case done =>
      rintro D ys W hD rfl ⟨⟨hc, hf⟩, hB⟩ hK
      gi_wp2
      refine ⟨by simp, .inl ⟨_, _, rfl, run_takeDeferred hK, ?_⟩⟩
      refine ⟨_, results_tmp2 rfl _ _ _, ?_, hB.trans (belowK_b (w := w) (Nat.le_refl _) W D _ _ (by simp at hD; omega) hK rfl rfl)⟩
      rw [nat_Small.go_all HW.out hz2, HN.out]
      rfl
    case stop =>
      rintro D c pre W _ _ h _
      exact h.elim
  · rw [if_neg hs] at h
    obtain ⟨rfl, rfl⟩ : (0 : Int) = r1 ∧ false = r2 := by simpa using h
    have hz3 : 3 ≤ z.length := by
      rcases Nat.lt_or_ge z.length 3 with h3 | h3
      · exfalso
        have : 2 ^ (32 * z.length) ≤ 2 ^ 64 := Nat.pow_le_pow_right (by omega) (by omega)
        omega
      · exact h3
    clear h ht hr0 hc0 hnv hz hs hl hok hW
    go_enter Try.func16, Try.ntmps16
    go_wp2_with (go_at_call 38; refine (nat_trim.calls _ _ _ l0 _ _ HR.out HC.out HT.out).mono ?_; rintro e w1 ⟨v, rfl, ho, hb⟩; obtain ⟨A, c, hv⟩ := Kd.R_slice ho; subst hv)
    go_ret2
    exact ⟨rfl, hb⟩

end Go.Proofs.Ytmodmjeibbgdgaa.PR

end
