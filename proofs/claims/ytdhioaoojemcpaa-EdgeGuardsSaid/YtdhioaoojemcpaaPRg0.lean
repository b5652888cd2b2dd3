/- Several functions' texts in one file. -/
import Derived.Test.YtdhioaoojemcpaaProg
import Derived.Below
import Derived.Deep.Draws
import Derived.Deep.AppendLies
import Derived.Maps.AppendAt
import Derived.OwnWalk
import Derived.Laws.BytesArg
import Derived.Laws.MakeOwn
import Derived.Laws.OwnMore
import Derived.Deep.OwnRows
import Derived.Tactics
import Derived.Lib.ConvBytes
import Derived.Laws.Slices
import Derived.WalkKit
import Derived.KernelRfl
import Derived.RowKit3
import Derived.Deep.LoopGhost
import Derived.Deep.QuietTactic
import Derived.BigQuiet
import Derived.WideLaws
import Derived.Deep.DeepCutAuto
import Derived.Deep.CutBlock
import Derived.Deep.RegionHeld3
import Derived.Laws.Rows
import Derived.Lib.AppendStr
import Derived.ArgAppend
import Derived.Laws.IdiomCopy
import Derived.OrdersHeld
import Derived.Laws.BitsLemmas
import Derived.RowKit
import Derived.Test.YtdhioaoojemcpaaWWords
import Derived.Test.YtdhioaoojemcpaaWLast
import Derived.Test.YtdhioaoojemcpaaWTab
import Derived.Test.YtdhioaoojemcpaaWFour
import Derived.Test.YtdhioaoojemcpaaWQPut
import Derived.Test.YtdhioaoojemcpaaWApart
import Derived.Test.YtdhioaoojemcpaaWArr
import Derived.Test.YtdhioaoojemcpaaWZeros
import Derived.Test.YtdhioaoojemcpaaWFoot
import Derived.Test.YtdhioaoojemcpaaWKept
import Derived.Test.YtdhioaoojemcpaaWShare
import Derived.Test.YtdhioaoojemcpaaWN
import Derived.Test.YtdhioaoojemcpaaWFootNe
import Derived.Test.YtdhioaoojemcpaaWAt
import Derived.Test.YtdhioaoojemcpaaWEqStruct
import Derived.Test.YtdhioaoojemcpaaWRepsOne
import Derived.Test.YtdhioaoojemcpaaWInv
import Derived.Test.YtdhioaoojemcpaaWInvWords
import Derived.Test.YtdhioaoojemcpaaWGuard
import Derived.Test.YtdhioaoojemcpaaWNEv
import Derived.Test.YtdhioaoojemcpaaWMore
import Derived.WalkSpells
import Derived.Test.YtdhioaoojemcpaaTy
import Derived.Test.YtdhioaoojemcpaaNum
import Derived.Test.YtdhioaoojemcpaaShort
import Derived.Test.YtdhioaoojemcpaaInt
import Derived.Test.YtdhioaoojemcpaaDec
import Derived.Test.YtdhioaoojemcpaaRat
import Derived.Test.YtdhioaoojemcpaaRow
import Derived.Test.YtdhioaoojemcpaaBack
import Derived.Stop.RegionWithIn
import Derived.Deep.RegionWith
import Derived.Test.YtdhioaoojemcpaaMem
namespace Go.Proofs.Ytdhioaoojemcpaa.PR
open Go.RowKit Go.Proofs.YtdhioaoojemcpaaW.PrintWords Go.Proofs.YtdhioaoojemcpaaW.PrintLast Go.Proofs.YtdhioaoojemcpaaW.PrintMore
attribute [local go_sem] max2_int min2_int max_two min_two max_three min_three max_four min_four   -- for this text's walks alone
set_option linter.unusedVariables false
set_option linter.unusedSimpArgs false
def errW : Option Int → Value
  | none => .nilIface
  | some c => .iface 0 (.int .i64 c)
theorem errW_none : errW none = .nilIface := rfl
theorem errW_some (c : Int) : errW (some c) = .iface 0 (.int .i64 c) := rfl

theorem info3 : (Try.prog.info? 3).map (fun i => (i.zero, i.size, i.bytes)) = some (some (.int .i64 0), 1, 8) := by kernel_rfl
theorem info5 : (Try.prog.info? 5).map (fun i => (i.zero, i.size, i.bytes)) = some (some (.int .u8 0), 1, 1) := by kernel_rfl
theorem info92 : (Try.prog.info? 92).map (fun i => (i.zero, i.size, i.bytes)) = some (some (.int .u32 0), 1, 4) := by kernel_rfl
def nat_Nat_uint32_96.f (l0 : List Int) : Option (List Int) := (some (([] : List Int) : List Int)).bind fun y101 => (if y101.length + l0.length < 35184372088832 then (some (y101 ++ l0)) else (none))
set_option maxHeartbeats 8000000 in
set_option maxRecDepth 100000 in
theorem nat_Nat_uint32_96.calls (A0 : Option Addr) (c0 : Nat) (l0 : List Int) (r : List Int) (w : World) (hr0 : Kd.C (Kd.int .u32) w A0 l0.length l0) (hc0 : l0.length ≤ c0) (h : nat_Nat_uint32_96.f l0 = some r) :
  Calls Try.prog 96 #[.slice A0 l0.length c0] w fun e w' => ∃ v0_ : Value, e = .returned (v0_) ∧ Kd.R (Kd.int .u32) 92 w' w.heap.size (fun _ => True) v0_ r ∧ Below w.heap.size w w' := by
 have HR0 := Aside0.mk hr0
 have HC0 := Aside0.mk hc0
 have hnil : ∀ (a : Option Addr) (l c : Nat) (w : World), (binOp .eql 30 (.slice a l c) (.slice none 0 0)).run Try.prog w = .ok (.bool a.isNone) w := by
  intro a l c w
  exact Lib.run_eql_slice_nil w _ _ a l c 0 0 Try.underlying30
 cases A0 with
 | none =>
  have hz : l0 = [] := by
   rcases Nat.eq_zero_or_pos l0.length with h0 | h0
   ·exact List.eq_nil_of_length_eq_zero h0
   ·obtain ⟨_, e, _⟩ := hr0.2.2 h0
    cases e
  subst hz
  obtain rfl : r = [] := by
   have : some ([] : List Int) = some r := h
   exact (Option.some.inj this).symm
  clear hr0 hc0 h HR0 HC0
  go_enter Try.func96, Try.ntmps96
  go_wp2
  go_ret
  exact ⟨_, rfl, Kd.R_nil _ _ _ _ _, Below.refl _ _⟩
 | some ad =>
  clear hr0 hc0
  have HB := Aside0.mk (Below.refl w.heap.size w)
  have H : ((some (([] : List Int) : List Int)).bind fun y101 => (if y101.length + l0.length < 35184372088832 then (some (y101 ++ l0)) else (none))) = some r := h
  clear h
  obtain ⟨y101, hy101⟩ : ∃ y_ : List Int, y_ = (([] : List Int)) := ⟨_, rfl⟩
  replace H : (if y101.length + l0.length < 35184372088832 then (some (y101 ++ l0)) else (none)) = some r := by first | (rw [hy101]; with_reducible exact H) | (have H2_ := (Option.bind_some _ _).symm.trans H; rw [hy101]; with_reducible exact H2_) | (have H2_ := (Option.bind_some _ _).symm.trans H; with_reducible exact H2_) | with_reducible exact H | (rw [hy101]; exact H) | exact H
  have Ny101 := Aside0.mk hy101
  clear hy101
  by_cases c2 : y101.length + l0.length < 35184372088832
  ·rw [if_pos c2] at H
   have LMc2 := Aside0.mk c2
   clear c2
   obtain ⟨y104, hy104⟩ : ∃ y_ : List Int, y_ = (y101 ++ l0) := ⟨_, rfl⟩
   replace H : (some y104) = some r := by first | (rw [hy104]; with_reducible exact H) | (have H2_ := (Option.bind_some _ _).symm.trans H; rw [hy104]; with_reducible exact H2_) | (have H2_ := (Option.bind_some _ _).symm.trans H; with_reducible exact H2_) | with_reducible exact H | (rw [hy104]; exact H) | exact H
   have Ny104 := Aside0.mk hy104
   clear hy104
   obtain rfl := Option.some.inj H
   go_enter Try.func96, Try.ntmps96
   go_wp2_with (first | ((with_reducible refine gate_dst (N := 5) rfl ?_); refine Kd.R_lit (Kd.int .u32) _ 92 ?hg (N := 5) ?hd (xs := ([] : List Int)) (inner := []) (ok := fun _ => True) (okp := fun _ => True) ?hr ?hp (fun _ hk => hk) trivial (Below.refl _ _) (Nat.le_refl _) (by simp) ?_; (case hd => rfl); (case hg => rfl); (case hr => first | (go_simp; done) | (go_simp; rfl)); (case hp => exact (Reps.none _ _)); intro v102 w3 ho4 hb hg_ hnew_; clear hg_ hnew_; (first | rw [← Ny101.out] at ho4 | (simp only [Int.reduceToNat] at ho4; rw [← Ny101.out] at ho4)); have HO103 := Aside0.mk (Kd.R_lower ho4 (below_size (by repeat (first | (with_reducible first | exact HB.out | apply below_alloc | apply pw_below_drewN | apply below_drew1) | exact HB.out)))); replace HB := Aside0.mk (below_step (by repeat (first | (with_reducible first | exact HB.out | apply below_alloc | apply pw_below_drewN | apply below_drew1) | exact HB.out)) hb); clear hb ho4) | ((with_reducible refine gate_builtin (b := .append) (xs := #[.tmp 5, .tmp 6]) rfl ?_); at_builtin; refine Kd.R_append_rows (Kd.int .u32) (w0 := w) w.heap.size rfl (.tmp 5) (.tmp 6) 30 92 (.int .u32 0) 4 rfl Try.underlying30 info92 rfl (by decide) (by omega) v102 y101 l0 _ _ _ (fun _ => True) (fun _ => False) rfl rfl ?aO ?aR (fun _ _ h => h) (fun _ h => h.elim) ?aF ?aB ?aS ?aL ?_; (case aR => repeat (first | exact (Kd.C_below HR0.out HB.out) | (with_reducible refine Kd.C_alloc ?_ _) | (with_reducible refine Kd.C_drewN ?_ _) | (with_reducible refine Kd.C_drew ?_))); (case aB => exact (by repeat (first | (with_reducible first | exact HB.out | apply below_alloc | apply pw_below_drewN | apply below_drew1) | exact HB.out))); (case aF => exact (fun _ _ => trivial)); (case aO => exact HO103.out); (case aS => exact (below_size (by repeat (first | (with_reducible first | exact HB.out | apply below_alloc | apply pw_below_drewN | apply below_drew1) | exact HB.out)))); (case aL => have := LMc2.out; omega); intro v105 w5 ho hb hg hat; rw [← Ny104.out] at ho; replace HB := Aside0.mk (hb); have HO106 := Aside0.mk (ho); clear HO103; clear ho hb hg hat))
   go_ret
   exact ⟨_, by rfl, by (with_reducible repeat (first | apply Kd.R_alloc | apply Kd.R_drewN | apply Kd.R_drew)); exact HO106.out, by repeat (first | (with_reducible first | exact HB.out | apply below_alloc | apply pw_below_drewN | apply below_drew1) | exact HB.out)⟩
  ·rw [if_neg c2] at H
   exact absurd H (by simp)
def nat_trim.l0 : Nat → List Int → Int → Option (List Int)
 | 0, _, _ => none
 | k + 1, x0, x3 => if x3 > 0 then (if 0 ≤ (wrap64 (x3 - 1)) then (if (wrap64 (x3 - 1)) < (x0.length : Int) then (if (rd x0 (wrap64 (x3 - 1))) = 0 then (nat_trim.l0 k x0 (wrap64 (x3 - 1))) else (if 0 ≤ x3 then (if x3 ≤ (x0.length : Int) then ((nat_Nat_uint32_96.f (x0.take (x3 : Int).toNat)).bind fun t109 => (some t109)) else (none)) else (none))) else (none)) else (none)) else (if 0 ≤ x3 then (if x3 ≤ (x0.length : Int) then ((nat_Nat_uint32_96.f (x0.take (x3 : Int).toNat)).bind fun t113 => (some t113)) else (none)) else (none))
def nat_trim.f (k : Nat) (l0 : List Int) : Option (List Int) := nat_trim.l0 k l0 (l0.length : Int)
set_option maxHeartbeats 8000000 in
set_option maxRecDepth 100000 in
theorem nat_trim.calls (k : Nat) (A0 : Option Addr) (c0 : Nat) (l0 : List Int) (r : List Int) (w : World) (hr0 : Kd.C (Kd.int .u32) w A0 l0.length l0) (hc0 : l0.length ≤ c0) (h : nat_trim.f k l0 = some r) :
  Calls Try.prog 71 #[.slice A0 l0.length c0] w fun e w' => ∃ v0_ : Value, e = .returned (v0_) ∧ Kd.R (Kd.int .u32) 92 w' w.heap.size (fun _ => True) v0_ r ∧ Below w.heap.size w w' := by
 have HR0 := Aside0.mk hr0
 have HC0 := Aside0.mk hc0
 clear hr0 hc0
 have HB := Aside0.mk (Below.refl w.heap.size w)
 have H : (nat_trim.l0 k l0 (l0.length : Int)) = some r := h
 clear h
 have H' := Aside0.mk H
 clear H
 go_enter Try.func71, Try.ntmps71
 go_wp2
 go_loopg [3] k (fun kq v3 w' => ∃ (x3_1 : Int), v3 = .int .i64 x3_1 ∧ Aside0 (nat_trim.l0 kq l0 x3_1 = some r) ∧ Aside0 (kq ≤ k) ∧ Aside0 (Below w.heap.size w w'))
 case atStart => exact ⟨((l0.length : Int)), (by first | rfl | (simp; done) | (simp [*]; done)), H', ⟨Nat.le_refl _⟩, ⟨by repeat (first | (with_reducible first | exact HB.out | apply below_alloc | apply pw_below_drewN | apply below_drew1) | exact HB.out)⟩⟩
 case round =>
  clear H'
  obtain ⟨x3_1, rfl, HA, HK1, HB⟩ := hrel
  cases gk with
  | zero => exact absurd HA.out (by simp [nat_trim.l0])
  | succ k1 =>
   have H := HA.out
   clear HA
   simp only [nat_trim.l0] at H
   by_cases c2 : x3_1 > 0
   ·rw [if_pos c2] at H
    have c2b0 : decide (0 < x3_1) = true := decide_eq_true c2
    clear c2
    obtain ⟨ji3, hji3⟩ : ∃ j_ : Int, (wrap64 (x3_1 - 1)) = j_ := ⟨_, rfl⟩
    replace H : (if 0 ≤ (ji3) then (if (ji3) < (l0.length : Int) then (if (rd l0 (ji3)) = 0 then (nat_trim.l0 k1 l0 ji3) else (if 0 ≤ x3_1 then (if x3_1 ≤ (l0.length : Int) then ((nat_Nat_uint32_96.f (l0.take (x3_1 : Int).toNat)).bind fun t109 => (some t109)) else (none)) else (none))) else (none)) else (none)) = some r := by first | (rw [hji3] at H; exact H) | (simp only [hji3] at H ⊢; exact H)
    have hji3w : (IntKind.i64.wrap (x3_1 - 1)) = ji3 := (i64_w _).trans hji3
    by_cases c4 : 0 ≤ (ji3)
    ·rw [if_pos c4] at H
     have c4b0 : decide (0 ≤ (ji3)) = true := decide_eq_true c4
     clear c4
     by_cases c5 : (ji3) < (l0.length : Int)
     ·rw [if_pos c5] at H
      have c5b0 : decide ((ji3) < (l0.length : Int)) = true := decide_eq_true c5
      clear c5
      by_cases c6 : (rd l0 (ji3)) = 0
      ·rw [if_pos c6] at H
       have c6b0 : ((rd l0 (ji3)) == 0) = true := beq_iff_eq.mpr c6
       have c6b1 : ((rd l0 (ji3)) != 0) = false := bne_eq_false_iff_eq.mpr c6
       clear c6
       have H' := Aside0.mk H
       clear H
       have p107 : 0 ≤ ((ji3) : Int) := of_decide_eq_true (by first | (with_reducible assumption) | assumption)
       have q107 : (ji3) < (l0.length : Int) := of_decide_eq_true (by first | (with_reducible assumption) | assumption)
       obtain ⟨ad107, e107, hx107_0⟩ := Kd.at_int HR0.out (ji3) p107 q107
       cases e107
       replace hx107_0 := (HB.out.cell (World.block_lt_of_cell? w _ hx107_0)).trans hx107_0
       replace p107 := eq_true p107
       replace q107 := eq_true q107
       go_wp2
       go_roundg k1
       case measure => have := HK1.out; omega
       case rel => exact ⟨(ji3), (by first | rfl | (simp; done) | (simp only [← hji3] <;> (first | rfl | simp)) | (simp [*]; done)), H', ⟨by have := HK1.out; omega⟩, ⟨by repeat (first | (with_reducible first | exact HB.out | apply below_alloc | apply pw_below_drewN | apply below_drew1) | exact HB.out)⟩⟩
      ·rw [if_neg c6] at H
       have c6b0 : ((rd l0 (ji3)) == 0) = false := beq_eq_false_iff_ne.mpr c6
       have c6b1 : ((rd l0 (ji3)) != 0) = true := bne_iff_ne.mpr c6
       by_cases c7 : 0 ≤ x3_1
       ·rw [if_pos c7] at H
        have c7b0 := eq_true c7
        have c7b1 : decide (0 ≤ x3_1) = true := decide_eq_true c7
        clear c7
        by_cases c8 : x3_1 ≤ (l0.length : Int)
        ·rw [if_pos c8] at H
         have c8b0 := eq_true c8
         have c8b1 : decide (x3_1 ≤ (l0.length : Int)) = true := decide_eq_true c8
         clear c8
         replace H := Option.bind_eq_some_iff.mp H
         obtain ⟨t109, A90, H⟩ := H
         replace H : (some t109) = some r := H
         have A9 := Aside0.mk A90
         clear A90
         obtain rfl := Option.some.inj H
         have p107 : 0 ≤ ((ji3) : Int) := of_decide_eq_true (by first | (with_reducible assumption) | assumption)
         have q107 : (ji3) < (l0.length : Int) := of_decide_eq_true (by first | (with_reducible assumption) | assumption)
         obtain ⟨ad107, e107, hx107_0⟩ := Kd.at_int HR0.out (ji3) p107 q107
         cases e107
         replace hx107_0 := (HB.out.cell (World.block_lt_of_cell? w _ hx107_0)).trans hx107_0
         replace p107 := eq_true p107
         replace q107 := eq_true q107
         obtain ⟨i010, hi010, _, hsz10, _⟩ := info_parts info92
         obtain ⟨hcut10, hA10, hC10⟩ := print_take_of (P := Try.prog) (Value.int .u32) 0 30 92 .i64 Try.underlying30 hi010 hsz10 (some ad107) c0 l0 x3_1 (of_decide_eq_true (by first | (with_reducible assumption) | assumption)) (of_decide_eq_true (by first | (with_reducible assumption) | assumption)) HC0.out
         have HR108 := Aside0.mk (Kd.C_of_reads (h1 := fun _ => rfl) (hA10 _ (Kd.reads_of_C HR0.out)))
         have HC108 := Aside0.mk hC10
         clear hA10 hC10 hi010 hsz10
         go_wp2_with (first | ((with_reducible refine gate_callee (f := 96) rfl ?_); refine goesL_ (some 21) rfl rfl Try.func96 (by kernel_rfl) rfl #[.slice (some ad107) (l0.take (x3_1 : Int).toNat).length c0] rfl (by (try simp only [List.map_toArray, List.map_cons, List.map_nil]); first | done | (rw [show (l0.take (x3_1 : Int).toNat).length = x3_1.toNat from (by rw [List.length_take]; have h_ : (x3_1 : Int) ≤ (l0.length : Int) := of_decide_eq_true (by first | (with_reducible assumption) | assumption); omega)] <;> rfl) | rfl | (simp only [List.length_drop, List.length_take]; rfl)) ?_; (with_reducible refine (nat_Nat_uint32_96.calls _ _ (l0.take (x3_1 : Int).toNat) t109 _ ?side1 HC108.out A9.out).mono ?_); (case side1 => repeat (first | exact (Kd.C_below HR108.out HB.out) | (with_reducible refine Kd.C_alloc ?_ _) | (with_reducible refine Kd.C_drewN ?_ _) | (with_reducible refine Kd.C_drew ?_))); rintro e w11 ⟨v110, rfl, ho0, hb⟩; refine ⟨_, rfl, ?_⟩; have HO111 := Aside0.mk (Kd.R_lower ho0 (below_size (by repeat (first | (with_reducible first | exact HB.out | apply below_alloc | apply pw_below_drewN | apply below_drew1) | exact HB.out)))); replace HB := Aside0.mk (below_step (by repeat (first | (with_reducible first | exact HB.out | apply below_alloc | apply pw_below_drewN | apply below_drew1) | exact HB.out)) hb); (try clear hb); (try clear ho0)))
         go_ret
         exact ⟨_, by first | rfl | (simp [errW_none, errW_some] <;> rfl) | (simp only [← hji3]; first | rfl | (simp [errW_none, errW_some] <;> rfl)) | (simp [*, errW_none, errW_some] <;> rfl), by (with_reducible repeat (first | apply Kd.R_alloc | apply Kd.R_drewN | apply Kd.R_drew)); exact HO111.out, by repeat (first | (with_reducible first | exact HB.out | apply below_alloc | apply pw_below_drewN | apply below_drew1) | exact HB.out)⟩
        ·rw [if_neg c8] at H
         exact absurd H (by simp)
       ·rw [if_neg c7] at H
        exact absurd H (by simp)
     ·rw [if_neg c5] at H
      exact absurd H (by simp)
    ·rw [if_neg c4] at H
     exact absurd H (by simp)
   ·rw [if_neg c2] at H
    have c2b0 : decide (0 < x3_1) = false := decide_eq_false c2
    clear c2
    by_cases c12 : 0 ≤ x3_1
    ·rw [if_pos c12] at H
     have c12b0 := eq_true c12
     have c12b1 : decide (0 ≤ x3_1) = true := decide_eq_true c12
     clear c12
     by_cases c13 : x3_1 ≤ (l0.length : Int)
     ·rw [if_pos c13] at H
      have c13b0 := eq_true c13
      have c13b1 : decide (x3_1 ≤ (l0.length : Int)) = true := decide_eq_true c13
      clear c13
      replace H := Option.bind_eq_some_iff.mp H
      obtain ⟨t113, A140, H⟩ := H
      replace H : (some t113) = some r := H
      have A14 := Aside0.mk A140
      clear A140
      obtain rfl := Option.some.inj H
      obtain ⟨i015, hi015, _, hsz15, _⟩ := info_parts info92
      obtain ⟨hcut15, hA15, hC15⟩ := print_take_of (P := Try.prog) (Value.int .u32) 0 30 92 .i64 Try.underlying30 hi015 hsz15 A0 c0 l0 x3_1 (of_decide_eq_true (by first | (with_reducible assumption) | assumption)) (of_decide_eq_true (by first | (with_reducible assumption) | assumption)) HC0.out
      have HR112 := Aside0.mk (Kd.C_of_reads (h1 := fun _ => rfl) (hA15 _ (Kd.reads_of_C HR0.out)))
      have HC112 := Aside0.mk hC15
      clear hA15 hC15 hi015 hsz15
      go_wp2_with (first | ((with_reducible refine gate_callee (f := 96) rfl ?_); refine goesL_ (some 21) rfl rfl Try.func96 (by kernel_rfl) rfl #[.slice A0 (l0.take (x3_1 : Int).toNat).length c0] rfl (by (try simp only [List.map_toArray, List.map_cons, List.map_nil]); first | done | (rw [show (l0.take (x3_1 : Int).toNat).length = x3_1.toNat from (by rw [List.length_take]; have h_ : (x3_1 : Int) ≤ (l0.length : Int) := of_decide_eq_true (by first | (with_reducible assumption) | assumption); omega)] <;> rfl) | rfl | (simp only [List.length_drop, List.length_take]; rfl)) ?_; (with_reducible refine (nat_Nat_uint32_96.calls _ _ (l0.take (x3_1 : Int).toNat) t113 _ ?side1 HC112.out A14.out).mono ?_); (case side1 => repeat (first | exact (Kd.C_below HR112.out HB.out) | (with_reducible refine Kd.C_alloc ?_ _) | (with_reducible refine Kd.C_drewN ?_ _) | (with_reducible refine Kd.C_drew ?_))); rintro e w16 ⟨v114, rfl, ho0, hb⟩; refine ⟨_, rfl, ?_⟩; have HO115 := Aside0.mk (Kd.R_lower ho0 (below_size (by repeat (first | (with_reducible first | exact HB.out | apply below_alloc | apply pw_below_drewN | apply below_drew1) | exact HB.out)))); replace HB := Aside0.mk (below_step (by repeat (first | (with_reducible first | exact HB.out | apply below_alloc | apply pw_below_drewN | apply below_drew1) | exact HB.out)) hb); (try clear hb); (try clear ho0)))
      go_ret
      exact ⟨_, by rfl, by (with_reducible repeat (first | apply Kd.R_alloc | apply Kd.R_drewN | apply Kd.R_drew)); exact HO115.out, by repeat (first | (with_reducible first | exact HB.out | apply below_alloc | apply pw_below_drewN | apply below_drew1) | exact HB.out)⟩
     ·rw [if_neg c13] at H
      exact absurd H (by simp)
    ·rw [if_neg c12] at H
     exact absurd H (by simp)

theorem nat_trim.sem_l {l : List Int} (hW : Num.Ws l) (hl : l.length < 35184372088832) (n : Nat) : ∀ k, n ≤ l.length → n < k → nat_trim.l0 k l (n : Int) = some (Num.nd (Num.nv (l.take n))) := by
 induction n with
 | zero =>
  intro k _ hk
  obtain ⟨k, rfl⟩ : ∃ m, k = m + 1 := ⟨k - 1, by omega⟩
  simp only [nat_trim.l0]
  rw [if_neg (by omega), if_pos (by omega), if_pos (by omega)]
  simp [nat_Nat_uint32_96.f, Num.nv, Num.nd_zero]
 | succ n ih =>
  intro k hn hk
  obtain ⟨k, rfl⟩ : ∃ m, k = m + 1 := ⟨k - 1, by omega⟩
  have hw : wrap64 (((n + 1 : Nat) : Int) - 1) = (n : Int) := by unfold wrap64; omega
  have hr : rd l (n : Int) = l.getD n 0 := by simp [rd]
  have hs := Num.nv_split (l.take (n + 1)) n (by rw [List.length_take]; omega)
  have ht : (l.take (n + 1)).take n = l.take n := by rw [List.take_take]; congr 1; omega
  have hg : (l.take (n + 1)).getD n 0 = l.getD n 0 := by simp [List.getElem?_take]
  have hd : (l.take (n + 1)).drop (n + 1) = [] := List.drop_of_length_le (by rw [List.length_take]; omega)
  rw [ht, hg, hd] at hs
  simp only [nat_trim.l0]
  rw [if_pos (by omega), hw, if_pos (by omega), if_pos (by omega), hr]
  by_cases h0 : l.getD n 0 = 0
  ·rw [if_pos h0, ih k (by omega) (by omega), hs, h0]
   simp [Num.nv]
  ·rw [if_neg h0, if_pos (by omega), if_pos (by omega)]
   have hc : (l.take (n + 1)).length < 35184372088832 := by rw [List.length_take]; omega
   have e : Num.nd (Num.nv (l.take (n + 1))) = l.take (n + 1) := by
    refine Num.nd_nv (hW.take _) (.inr ?_)
    rw [List.length_take, Nat.min_eq_left hn, Nat.add_sub_cancel, hg]
    exact h0
   simp only [Int.toNat_natCast]
   rw [e]
   simp only [nat_Nat_uint32_96.f, Option.bind_some, List.length_nil, Nat.zero_add, List.nil_append]
   rw [if_pos hc]
   rfl
theorem nat_trim.sem_w {l : List Int} (hW : Num.Ws l) (hl : l.length < 35184372088832) (k : Nat) (hk : l.length < k) : nat_trim.f k l = some (Num.nd (Num.nv l)) := by
 have := nat_trim.sem_l hW hl l.length k (Nat.le_refl _) hk
 rw [List.take_length] at this
 exact this
/-- A row without noughts at its end. -/
theorem nat_trim.sem {l : List Int} (h : Num.okw l = true) (k : Nat) (hk : l.length < k) : nat_trim.f k l = some (Num.nd (Num.nv l)) := by
 obtain ⟨hl, hW⟩ := (Num.okw_iff l).1 h
 exact nat_trim.sem_w hW (by omega) k hk
theorem nat_trim.ev {l : List Int} (hW : Num.Ws l) (hl : l.length < 35184372088832) : Ev (fun k => nat_trim.f k l) (Num.nd (Num.nv l)) := ⟨l.length + 1, fun k hk => nat_trim.sem_w hW hl k (by omega)⟩
theorem nat_trim.u64w {n : Int} (h0 : 0 ≤ n) (h1 : n < 18446744073709551616) : IntKind.u64.wrap n = n := by
 have : IntKind.u64.wrap n = n % 18446744073709551616 := by simp [IntKind.wrap, IntKind.bits, IntKind.signed]
 rw [this]; omega
theorem nat_trim.w64 {n : Int} (h0 : -9223372036854775808 ≤ n) (h1 : n < 9223372036854775808) : wrap64 n = n := by unfold wrap64; omega
/- Numbers of the machine that fit: each said of natural numbers, so that no arithmetic is done beside the machine's words. -/
theorem w64_nat (n : Nat) (h : n < 9223372036854775808) : wrap64 (n : Int) = (n : Int) := nat_trim.w64 (by omega) (by omega)
theorem w64_add (a b : Nat) (h : a + b < 9223372036854775808) : wrap64 ((a : Int) + (b : Int)) = ((a + b : Nat) : Int) := by rw [nat_trim.w64 (by omega) (by omega)]; omega
theorem w64_succ (a : Nat) (h : a + 1 < 9223372036854775808) : wrap64 ((a : Int) + 1) = ((a + 1 : Nat) : Int) := by rw [nat_trim.w64 (by omega) (by omega)]; omega
theorem w64_pred (a : Nat) (h1 : 1 ≤ a) (h : a < 9223372036854775808) : wrap64 ((a : Int) - 1) = ((a - 1 : Nat) : Int) := by rw [nat_trim.w64 (by omega) (by omega)]; omega
theorem w64_sub (a b : Nat) (h1 : b ≤ a) (h : a < 9223372036854775808) : wrap64 ((a : Int) - (b : Int)) = ((a - b : Nat) : Int) := by rw [nat_trim.w64 (by omega) (by omega)]; omega
theorem w64_mul (a b : Nat) (h : a * b < 9223372036854775808) : wrap64 ((a : Int) * (b : Int)) = ((a * b : Nat) : Int) := by rw [← Int.natCast_mul]; exact w64_nat _ h
theorem u64_nat (n : Nat) (h : n < 18446744073709551616) : IntKind.u64.wrap (n : Int) = (n : Int) := nat_trim.u64w (by omega) (by omega)
theorem u64_add (a b : Nat) (h : a + b < 18446744073709551616) : IntKind.u64.wrap ((a : Int) + (b : Int)) = ((a + b : Nat) : Int) := by rw [nat_trim.u64w (by omega) (by omega)]; omega
theorem u64_mul (a b : Nat) (h : a * b < 18446744073709551616) : IntKind.u64.wrap ((a : Int) * (b : Int)) = ((a * b : Nat) : Int) := by rw [← Int.natCast_mul]; exact u64_nat _ h
theorem mod32_nat (n : Nat) : (n : Int) % 4294967296 = ((n % 4294967296 : Nat) : Int) := by omega
theorem div32_nat (n : Nat) : (n : Int) / 4294967296 = ((n / 4294967296 : Nat) : Int) := by omega
theorem shl64_nat (p r : Nat) (hp : p < 4294967296) (hr : r ≤ 31) : shl .u64 (p : Int) (r : Int) = ((p * 2 ^ r : Nat) : Int) := by
 have hR : 2 ^ r ≤ 2147483648 := Nat.le_trans (Nat.pow_le_pow_right (n := 2) (by omega) hr) (by decide)
 have h64 : p * 2 ^ r < 18446744073709551616 := by
  have := Nat.mul_le_mul (show p ≤ 4294967296 from by omega) hR
  omega
 have e : (p : Int) * 2 ^ r = ((p * 2 ^ r : Nat) : Int) := by rw [Int.natCast_mul, Int.natCast_pow]; rfl
 unfold shl
 rw [Int.toNat_natCast, show min r IntKind.u64.bits = r from Nat.min_eq_left (show r ≤ 64 from by omega), e]
 exact u64_nat _ h64
theorem rd_nat (l : List Int) (i : Nat) : rd l (i : Int) = l.getD i 0 := by simp [rd]
theorem rd_at {l : List Int} {i p : Nat} (h : (p : Int) = l.getD i 0) : rd l (i : Int) = (p : Int) := by rw [h]; simp [rd]
set_option synthInstance.checkSynthOrder false in
open Lin in
instance nat_trim.t {k : Nat} {l0 : List Int} {r : List Int} [h : Ans (nat_trim.f k l0) r] : Tl Try.prog 71 [.one (.row l0)] (.el (.one (.row r))) := ⟨Tells.of Try.func71 fun out w vs ho hl hv => by
 obtain ⟨u0, rfl, h0⟩ := args1 hl hv
 obtain ⟨A0, c0, rfl, hc0, hr0, hb0⟩ := h0
 refine (nat_trim.calls k A0 c0 l0 _ w hr0 hc0 h.out).mono ?_
 rintro e w' ⟨v0_, rfl, gv0_, hb⟩
 exact ⟨_, rfl, row_R gv0_ ho, hb⟩⟩
def nat_Of.f (k : Nat) (a0 : Int) : Option (List Int) := (nat_trim.f k (([(a0) % 4294967296, (a0 / 4294967296) % 4294967296] : List Int))).bind fun t119 => (some t119)
set_option maxHeartbeats 8000000 in
set_option maxRecDepth 100000 in
theorem nat_Of.calls (k : Nat) (a0 : Int) (r : List Int) (w : World) (h : nat_Of.f k a0 = some r) :
  Calls Try.prog 40 #[.int .u64 a0] w fun e w' => ∃ v0_ : Value, e = .returned (v0_) ∧ Kd.R (Kd.int .u32) 92 w' w.heap.size (fun _ => True) v0_ r ∧ Below w.heap.size w w' := by
 have HB := Aside0.mk (Below.refl w.heap.size w)
 have H : ((nat_trim.f k (([(a0) % 4294967296, (a0 / 4294967296) % 4294967296] : List Int))).bind fun t119 => (some t119)) = some r := h
 clear h
 obtain ⟨y116, hy116⟩ : ∃ y_ : List Int, y_ = (([(a0) % 4294967296, (a0 / 4294967296) % 4294967296] : List Int)) := ⟨_, rfl⟩
 replace H : ((nat_trim.f k y116).bind fun t119 => (some t119)) = some r := by first | (rw [hy116]; with_reducible exact H) | (have H2_ := (Option.bind_some _ _).symm.trans H; rw [hy116]; with_reducible exact H2_) | (have H2_ := (Option.bind_some _ _).symm.trans H; with_reducible exact H2_) | with_reducible exact H | (rw [hy116]; exact H) | exact H
 have Ny116 := Aside0.mk hy116
 clear hy116
 replace H := Option.bind_eq_some_iff.mp H
 obtain ⟨t119, A20, H⟩ := H
 replace H : (some t119) = some r := H
 have A2 := Aside0.mk A20
 clear A20
 obtain rfl := Option.some.inj H
 go_enter Try.func40, Try.ntmps40
 go_wp2_with (first | ((with_reducible refine gate_dst (N := 8) rfl ?_); refine Kd.R_lit (Kd.int .u32) _ 92 ?hg (N := 8) ?hd (xs := ([(a0) % 4294967296, (a0 / 4294967296) % 4294967296] : List Int)) (inner := [.int .u32 ((a0) % 4294967296), .int .u32 ((a0 / 4294967296) % 4294967296)]) (ok := fun _ => True) (okp := fun _ => True) ?hr ?hp (fun _ hk => hk) trivial (Below.refl _ _) (Nat.le_refl _) (by simp) ?_; (case hd => rfl); (case hg => rfl); (case hr => first | (go_simp; done) | (go_simp; rfl)); (case hp => exact (Reps.one (show Kd.M (Kd.int .u32) _ _ _ ((a0) % 4294967296) [.int .u32 ((a0) % 4294967296)] from rfl) (Reps.one (show Kd.M (Kd.int .u32) _ _ _ ((a0 / 4294967296) % 4294967296) [.int .u32 ((a0 / 4294967296) % 4294967296)] from rfl) (Reps.none _ _)))); intro v117 w3 ho4 hb hg_ hnew_; clear hg_ hnew_; (first | rw [← Ny116.out] at ho4 | (simp only [Int.reduceToNat] at ho4; rw [← Ny116.out] at ho4)); have HO118 := Aside0.mk (Kd.R_lower ho4 (below_size (by repeat (first | (with_reducible first | exact HB.out | apply below_alloc | apply pw_below_drewN | apply below_drew1) | exact HB.out)))); replace HB := Aside0.mk (below_step (by repeat (first | (with_reducible first | exact HB.out | apply below_alloc | apply pw_below_drewN | apply below_drew1) | exact HB.out)) hb); clear hb ho4; obtain ⟨Ao5, co5, eo5⟩ := Kd.R_slice HO118.out; subst eo5) | ((with_reducible refine gate_callee (f := 71) rfl ?_); refine Short.goesS_ (some 9) Try.func71 #[.slice Ao5 y116.length co5] ?_; (with_reducible refine (nat_trim.calls k _ _ y116 t119 _ ((Kd.R_reads' HO118.out).2.2) ((Kd.R_reads' HO118.out).2.1) A2.out).mono ?_); rintro e w6 ⟨v120, rfl, ho0, hb⟩; refine ⟨_, rfl, ?_⟩; have HO121 := Aside0.mk (Kd.R_lower (Kd.R_new' ho0 (Kd.R_lt HO118.out)) (below_size (by repeat (first | (with_reducible first | exact HB.out | apply below_alloc | apply pw_below_drewN | apply below_drew1) | exact HB.out)))); replace HO118 := Aside0.mk (Kd.R_elder' HO118.out (Kd.R_base ho0) hb); replace HB := Aside0.mk (below_step (by repeat (first | (with_reducible first | exact HB.out | apply below_alloc | apply pw_below_drewN | apply below_drew1) | exact HB.out)) hb); (try clear hb); (try clear ho0)))
 go_ret
 exact ⟨_, by rfl, by (with_reducible repeat (first | apply Kd.R_alloc | apply Kd.R_drewN | apply Kd.R_drew)); exact Kd.R_mono HO121.out (fun _ hk => trivial), by repeat (first | (with_reducible first | exact HB.out | apply below_alloc | apply pw_below_drewN | apply below_drew1) | exact HB.out)⟩

theorem nat_Of.ev (n : Nat) (h : n < 18446744073709551616) : Ev (fun k => nat_Of.f k (n : Int)) (Num.nd n) := by
 have hW : Num.Ws [(n : Int) % 4294967296, ((n : Int) / 4294967296) % 4294967296] := Num.Ws.cons (by omega) (by omega) (Num.Ws.cons (by omega) (by omega) Num.Ws.nil)
 have hv : Num.nv [(n : Int) % 4294967296, ((n : Int) / 4294967296) % 4294967296] = n := by simp only [Num.nv]; omega
 have := nat_trim.ev hW (by simp)
 rw [hv] at this
 unfold nat_Of.f
 exact Ev.bind this (Ev.now _)
set_option synthInstance.checkSynthOrder false in
open Lin in
instance nat_Of.t {k : Nat} {a0 : Int} {r : List Int} [h : Ans (nat_Of.f k a0) r] : Tl Try.prog 40 [.one (.val (.int .u64 a0))] (.el (.one (.row r))) := ⟨Tells.of Try.func40 fun out w vs ho hl hv => by
 obtain ⟨u0, rfl, h0⟩ := args1 hl hv
 obtain rfl := h0.1
 refine (nat_Of.calls k a0 _ w h.out).mono ?_
 rintro e w' ⟨v0_, rfl, gv0_, hb⟩
 exact ⟨_, rfl, row_R gv0_ ho, hb⟩⟩
mutual
def nat_Shift.j0 : Nat → List Int → Int → Bool → Option (List Int)
 | 0, _, _, _ => none
 | k + 1, x0, x1, x14 => if x14 = true then ((nat_trim.f k x0).bind fun t122 => (some t122)) else (if 0 ≤ (wrap64 ((wrap64 ((x0.length : Int) + (wrap64 (Int.tdiv x1 32)))) + 1)) then (if (wrap64 ((wrap64 ((x0.length : Int) + (wrap64 (Int.tdiv x1 32)))) + 1) : Int).toNat ≤ 70368744177664 then (nat_Shift.l0 k x1 (List.replicate (wrap64 ((wrap64 ((x0.length : Int) + (wrap64 (Int.tdiv x1 32)))) + 1) : Int).toNat 0) x0 (x0.length : Int) 0) else (none)) else (none))
def nat_Shift.l0 : Nat → Int → List Int → List Int → Int → Int → Option (List Int)
 | 0, _, _, _, _, _ => none
 | k + 1, x1, x5, x24, x25, x26 => if x26 < x25 then (if 0 ≤ x26 then (if x26 < (x24.length : Int) then (if 0 ≤ (Int.tmod x1 32) then (if 0 ≤ (wrap64 (x26 + (wrap64 (Int.tdiv x1 32)))) then (if (wrap64 (x26 + (wrap64 (Int.tdiv x1 32)))) < (x5.length : Int) then ((some (x5.set ((wrap64 (x26 + (wrap64 (Int.tdiv x1 32)))) : Int).toNat (Go.bits .or .u32 (rd x5 (wrap64 (x26 + (wrap64 (Int.tdiv x1 32))))) ((shl .u64 (IntKind.u64.wrap (rd x24 x26)) (Int.tmod x1 32)) % 4294967296)) : List Int)).bind fun y130 => (if 0 ≤ (wrap64 ((wrap64 (x26 + (wrap64 (Int.tdiv x1 32)))) + 1)) then (if (wrap64 ((wrap64 (x26 + (wrap64 (Int.tdiv x1 32)))) + 1)) < (x5.length : Int) then (nat_Shift.l0 k x1 (y130.set ((wrap64 ((wrap64 (x26 + (wrap64 (Int.tdiv x1 32)))) + 1)) : Int).toNat (Go.bits .or .u32 (rd y130 (wrap64 ((wrap64 (x26 + (wrap64 (Int.tdiv x1 32)))) + 1))) (((shl .u64 (IntKind.u64.wrap (rd x24 x26)) (Int.tmod x1 32)) / 4294967296) % 4294967296))) x24 x25 (wrap64 (x26 + 1))) else (none)) else (none))) else (none)) else (none)) else (none)) else (none)) else (none)) else ((nat_trim.f k x5).bind fun t133 => (some t133))
end
def nat_Shift.f (k : Nat) (l0 : List Int) (a1 : Int) : Option (List Int) := if a1 < 0 then (nat_Shift.j0 k l0 a1 true) else (nat_Shift.j0 k l0 a1 (decide (a1 > 65536)))
set_option maxHeartbeats 8000000 in
set_option maxRecDepth 100000 in
theorem nat_Shift.calls (k : Nat) (A0 : Option Addr) (c0 : Nat) (l0 : List Int) (a1 : Int) (r : List Int) (w : World) (hr0 : Kd.C (Kd.int .u32) w A0 l0.length l0) (hc0 : l0.length ≤ c0) (h : nat_Shift.f k l0 a1 = some r) :
  Calls Try.prog 44 #[.slice A0 l0.length c0, .int .i64 a1] w fun e w' => ∃ v0_ : Value, e = .returned (v0_) ∧ Kd.R (Kd.int .u32) 92 w' w.heap.size (fun _ => True) v0_ r ∧ Below w.heap.size w w' := by
 have HR0 := Aside0.mk hr0
 have HC0 := Aside0.mk hc0
 clear hr0 hc0
 have HB := Aside0.mk (Below.refl w.heap.size w)
 have H : (if a1 < 0 then (nat_Shift.j0 k l0 a1 true) else (nat_Shift.j0 k l0 a1 (decide (a1 > 65536)))) = some r := h
 clear h
 have HC3 := Aside0.mk H
 clear H
 go_enter Try.func44, Try.ntmps44
 go_upto_region 1 with (fail)
 go_cut [14] (fun v14 wc => ∃ (kq : Nat) (x14_2 : Bool), v14 = .bool x14_2 ∧ Aside0 (nat_Shift.j0 kq l0 a1 x14_2 = some r) ∧ Aside0 (kq ≤ k) ∧ Aside0 (Below w.heap.size w wc))
 case first =>
  have H := HC3.out
  clear HC3
  by_cases c4 : a1 < 0
  ·rw [if_pos c4] at H
   have c4b0 : decide (a1 < 0) = true := decide_eq_true c4
   clear c4
   (first | rw [c4b0] | (simp only [i64_w, i32_w]; rw [c4b0]) | skip)
   have H' := Aside0.mk H
   clear H
   go_wp2
   go_meet
   case rel => exact ⟨_, (true), (by first | rfl | (simp; done) | (simp [*]; done)), H', ⟨by first | omega | exact Nat.le_refl _⟩, ⟨by repeat (first | (with_reducible first | exact HB.out | apply below_alloc | apply pw_below_drewN | apply below_drew1) | exact HB.out)⟩⟩
  ·rw [if_neg c4] at H
   have c4b0 : decide (a1 < 0) = false := decide_eq_false c4
   clear c4
   (first | rw [c4b0] | (simp only [i64_w, i32_w]; rw [c4b0]) | skip)
   have H' := Aside0.mk H
   clear H
   go_wp2
   go_meet
   case rel => exact ⟨_, (decide (a1 > 65536)), (by first | rfl | (simp; done) | (simp [*]; done)), H', ⟨by first | omega | exact Nat.le_refl _⟩, ⟨by repeat (first | (with_reducible first | exact HB.out | apply below_alloc | apply pw_below_drewN | apply below_drew1) | exact HB.out)⟩⟩
 case rest =>
  clear HC3
  try clear p2
  try clear c4
  try clear c4b0
  obtain ⟨kq, x14_2, rfl, HA, HJ2, HB⟩ := hcut
  cases kq with
  | zero => exact absurd HA.out (by simp [nat_Shift.j0])
  | succ kj2 =>
   have H := HA.out
   clear HA
   simp only [nat_Shift.j0] at H
   by_cases c5 : x14_2 = true
   ·subst c5
    have H1 : ((nat_trim.f kj2 l0).bind fun t122 => (some t122)) = some r := by rw [if_pos rfl] at H; exact H
    clear H
    have H := H1
    clear H1
    replace H := Option.bind_eq_some_iff.mp H
    obtain ⟨t122, A60, H⟩ := H
    replace H : (some t122) = some r := H
    have A6 := Aside0.mk A60
    clear A60
    obtain rfl := Option.some.inj H
    go_wp2_with (first | ((with_reducible refine gate_callee (f := 71) rfl ?_); refine Short.goesS_ (some 16) Try.func71 #[.slice A0 l0.length c0] ?_; (with_reducible refine (nat_trim.calls kj2 _ _ l0 t122 _ (Kd.C_below HR0.out HB.out) HC0.out A6.out).mono ?_); rintro e w7 ⟨v123, rfl, ho0, hb⟩; refine ⟨_, rfl, ?_⟩; have HO124 := Aside0.mk (Kd.R_lower ho0 (below_size (by repeat (first | (with_reducible first | exact HB.out | apply below_alloc | apply pw_below_drewN | apply below_drew1) | exact HB.out)))); replace HB := Aside0.mk (below_step (by repeat (first | (with_reducible first | exact HB.out | apply below_alloc | apply pw_below_drewN | apply below_drew1) | exact HB.out)) hb); (try clear hb); (try clear ho0)))
    go_ret
    exact ⟨_, by rfl, by (with_reducible repeat (first | apply Kd.R_alloc | apply Kd.R_drewN | apply Kd.R_drew)); exact HO124.out, by repeat (first | (with_reducible first | exact HB.out | apply below_alloc | apply pw_below_drewN | apply below_drew1) | exact HB.out)⟩
   ·replace c5 := Bool.eq_false_iff.mpr c5
    subst c5
    have H1 : (if 0 ≤ (wrap64 ((wrap64 ((l0.length : Int) + (wrap64 (Int.tdiv a1 32)))) + 1)) then (if (wrap64 ((wrap64 ((l0.length : Int) + (wrap64 (Int.tdiv a1 32)))) + 1) : Int).toNat ≤ 70368744177664 then (nat_Shift.l0 kj2 a1 (List.replicate (wrap64 ((wrap64 ((l0.length : Int) + (wrap64 (Int.tdiv a1 32)))) + 1) : Int).toNat 0) l0 (l0.length : Int) 0) else (none)) else (none)) = some r := by rw [if_neg (show ¬ (false = true) by decide)] at H; exact H
    clear H
    have H := H1
    clear H1
    obtain ⟨ji8, hji8⟩ : ∃ j_ : Int, (wrap64 ((wrap64 ((l0.length : Int) + (wrap64 (Int.tdiv a1 32)))) + 1)) = j_ := ⟨_, rfl⟩
    replace H : (if 0 ≤ (ji8) then (if (ji8 : Int).toNat ≤ 70368744177664 then (nat_Shift.l0 kj2 a1 (List.replicate (ji8 : Int).toNat 0) l0 (l0.length : Int) 0) else (none)) else (none)) = some r := by first | (rw [hji8] at H; exact H) | (simp only [hji8] at H ⊢; exact H)
    have hji8w : (IntKind.i64.wrap ((wrap64 ((l0.length : Int) + (wrap64 (Int.tdiv a1 32)))) + 1)) = ji8 := (i64_w _).trans hji8
    by_cases c9 : 0 ≤ (ji8)
    ·rw [if_pos c9] at H
     have c9b0 := eq_true c9
     have c9b1 : decide (0 ≤ (ji8)) = true := decide_eq_true c9
     clear c9
     by_cases c10 : (ji8 : Int).toNat ≤ 70368744177664
     ·rw [if_pos c10] at H
      have c10b0 := eq_true c10
      have c10b1 : decide ((ji8 : Int).toNat ≤ 70368744177664) = true := decide_eq_true c10
      clear c10
      obtain ⟨y125, hy125⟩ : ∃ y_ : List Int, y_ = (List.replicate (ji8 : Int).toNat 0) := ⟨_, rfl⟩
      replace H : (nat_Shift.l0 kj2 a1 y125 l0 (l0.length : Int) 0) = some r := by first | (rw [hy125]; with_reducible exact H) | (have H2_ := (Option.bind_some _ _).symm.trans H; rw [hy125]; with_reducible exact H2_) | (have H2_ := (Option.bind_some _ _).symm.trans H; with_reducible exact H2_) | with_reducible exact H | (rw [hy125]; exact H) | exact H
      have Ny125 := Aside0.mk hy125
      clear hy125
      have H' := Aside0.mk H
      clear H
      go_wp2_with (first | ((with_reducible refine gate_dst (N := 23) rfl ?_); refine Kd.R_make (Kd.int .u32) _ 92 rfl (N := 23) rfl 30 _ _ rfl ji8 rfl rfl Try.underlying30 (.int .u32 0) 4 info92 rfl (by decide) (by omega) 0 (ok := fun _ => True) (okp := fun _ => True) rfl (fun _ hk => hk) trivial (of_decide_eq_true (by first | (with_reducible assumption) | assumption)) (Nat.le_trans (Nat.mul_le_mul_right _ (of_decide_eq_true (by first | (with_reducible assumption) | assumption) : ji8.toNat ≤ 70368744177664)) (by omega)) (Below.refl _ _) (Nat.le_refl _) ?_; intro v126 w11 ho12 hb hg_ hnew_; clear hg_ hnew_; (first | rw [← Ny125.out] at ho12 | (simp only [Int.reduceToNat] at ho12; rw [← Ny125.out] at ho12)); have HO127 := Aside0.mk (Kd.R_lower ho12 (below_size (by repeat (first | (with_reducible first | exact HB.out | apply below_alloc | apply pw_below_drewN | apply below_drew1) | exact HB.out)))); replace HB := Aside0.mk (below_step (by repeat (first | (with_reducible first | exact HB.out | apply below_alloc | apply pw_below_drewN | apply below_drew1) | exact HB.out)) hb); clear hb ho12))
      go_loopg [26] kj2 (fun kq v26 w' => ∃ (x5_2 : List Int) (x26_2 : Int), v26 = .int .i64 x26_2 ∧ Aside0 (nat_Shift.l0 kq a1 x5_2 l0 (l0.length : Int) x26_2 = some r) ∧ Aside0 (kq ≤ kj2) ∧ Aside0 (Kd.R (Kd.int .u32) 92 w' w.heap.size (fun _ => True) v126 x5_2) ∧ Aside0 (Below w.heap.size w w'))
      case atStart => exact ⟨(y125), (0), (by first | rfl | (simp; done) | (simp [*]; done)), H', ⟨Nat.le_refl _⟩, ⟨by (with_reducible repeat (first | apply Kd.R_alloc | apply Kd.R_drewN | apply Kd.R_drew)); exact HO127.out⟩, ⟨by repeat (first | (with_reducible first | exact HB.out | apply below_alloc | apply pw_below_drewN | apply below_drew1) | exact HB.out)⟩⟩
      case round =>
       clear H'
       try clear c1
       try clear p2
       try clear c4
       try clear c4b0
       try clear c5
       try clear p6
       try clear c7
       try clear c9
       try clear c9b0
       try clear c9b1
       try clear c10
       try clear c10b0
       try clear c10b1
       try clear p2
       obtain ⟨x5_2, x26_2, rfl, HA, HK2, HO_5, HB⟩ := hrel
       cases gk with
       | zero => exact absurd HA.out (by simp [nat_Shift.l0])
       | succ k2 =>
        have H := HA.out
        clear HA
        simp only [nat_Shift.l0] at H
        by_cases c13 : x26_2 < (l0.length : Int)
        ·rw [if_pos c13] at H
         have c13b0 : decide (x26_2 < (l0.length : Int)) = true := decide_eq_true c13
         clear c13
         by_cases c14 : 0 ≤ x26_2
         ·rw [if_pos c14] at H
          have c14b0 : decide (0 ≤ x26_2) = true := decide_eq_true c14
          clear c14
          by_cases c15 : x26_2 < (l0.length : Int)
          ·rw [if_pos c15] at H
           have c15b0 : decide (x26_2 < (l0.length : Int)) = true := decide_eq_true c15
           clear c15
           obtain ⟨ji16, hji16⟩ : ∃ j_ : Int, (Int.tmod a1 32) = j_ := ⟨_, rfl⟩
           replace H : (if 0 ≤ (ji16) then (if 0 ≤ (wrap64 (x26_2 + (wrap64 (Int.tdiv a1 32)))) then (if (wrap64 (x26_2 + (wrap64 (Int.tdiv a1 32)))) < (x5_2.length : Int) then ((some (x5_2.set ((wrap64 (x26_2 + (wrap64 (Int.tdiv a1 32)))) : Int).toNat (Go.bits .or .u32 (rd x5_2 (wrap64 (x26_2 + (wrap64 (Int.tdiv a1 32))))) ((shl .u64 (IntKind.u64.wrap (rd l0 x26_2)) (ji16)) % 4294967296)) : List Int)).bind fun y130 => (if 0 ≤ (wrap64 ((wrap64 (x26_2 + (wrap64 (Int.tdiv a1 32)))) + 1)) then (if (wrap64 ((wrap64 (x26_2 + (wrap64 (Int.tdiv a1 32)))) + 1)) < (x5_2.length : Int) then (nat_Shift.l0 k2 a1 (y130.set ((wrap64 ((wrap64 (x26_2 + (wrap64 (Int.tdiv a1 32)))) + 1)) : Int).toNat (Go.bits .or .u32 (rd y130 (wrap64 ((wrap64 (x26_2 + (wrap64 (Int.tdiv a1 32)))) + 1))) (((shl .u64 (IntKind.u64.wrap (rd l0 x26_2)) (ji16)) / 4294967296) % 4294967296))) l0 (l0.length : Int) (wrap64 (x26_2 + 1))) else (none)) else (none))) else (none)) else (none)) else (none)) = some r := by first | (rw [hji16] at H; exact H) | (simp only [hji16] at H ⊢; exact H)
           by_cases c17 : 0 ≤ (ji16)
           ·rw [if_pos c17] at H
            have c17b0 := eq_true c17
            have c17b1 : decide (0 ≤ (ji16)) = true := decide_eq_true c17
            clear c17
            obtain ⟨ji18, hji18⟩ : ∃ j_ : Int, (shl .u64 (IntKind.u64.wrap (rd l0 x26_2)) (ji16)) = j_ := ⟨_, rfl⟩
            replace H : (if 0 ≤ (wrap64 (x26_2 + (wrap64 (Int.tdiv a1 32)))) then (if (wrap64 (x26_2 + (wrap64 (Int.tdiv a1 32)))) < (x5_2.length : Int) then ((some (x5_2.set ((wrap64 (x26_2 + (wrap64 (Int.tdiv a1 32)))) : Int).toNat (Go.bits .or .u32 (rd x5_2 (wrap64 (x26_2 + (wrap64 (Int.tdiv a1 32))))) ((ji18) % 4294967296)) : List Int)).bind fun y130 => (if 0 ≤ (wrap64 ((wrap64 (x26_2 + (wrap64 (Int.tdiv a1 32)))) + 1)) then (if (wrap64 ((wrap64 (x26_2 + (wrap64 (Int.tdiv a1 32)))) + 1)) < (x5_2.length : Int) then (nat_Shift.l0 k2 a1 (y130.set ((wrap64 ((wrap64 (x26_2 + (wrap64 (Int.tdiv a1 32)))) + 1)) : Int).toNat (Go.bits .or .u32 (rd y130 (wrap64 ((wrap64 (x26_2 + (wrap64 (Int.tdiv a1 32)))) + 1))) (((ji18) / 4294967296) % 4294967296))) l0 (l0.length : Int) (wrap64 (x26_2 + 1))) else (none)) else (none))) else (none)) else (none)) = some r := by first | (rw [hji18] at H; exact H) | (simp only [hji18] at H ⊢; exact H)
            have hji18_ : (IntKind.u64.wrap ((IntKind.u64.wrap (rd l0 x26_2)) * 2 ^ min (ji16).toNat 64)) = ji18 := hji18
            have hji18z : (ji16) ≤ 64 → (IntKind.u64.wrap ((IntKind.u64.wrap (rd l0 x26_2)) * 2 ^ (ji16).toNat)) = ji18 := shl_small hji18
            obtain ⟨ji19, hji19⟩ : ∃ j_ : Int, (wrap64 (x26_2 + (wrap64 (Int.tdiv a1 32)))) = j_ := ⟨_, rfl⟩
            replace H : (if 0 ≤ (ji19) then (if (ji19) < (x5_2.length : Int) then ((some (x5_2.set ((ji19) : Int).toNat (Go.bits .or .u32 (rd x5_2 (ji19)) ((ji18) % 4294967296)) : List Int)).bind fun y130 => (if 0 ≤ (wrap64 ((ji19) + 1)) then (if (wrap64 ((ji19) + 1)) < (x5_2.length : Int) then (nat_Shift.l0 k2 a1 (y130.set ((wrap64 ((ji19) + 1)) : Int).toNat (Go.bits .or .u32 (rd y130 (wrap64 ((ji19) + 1))) (((ji18) / 4294967296) % 4294967296))) l0 (l0.length : Int) (wrap64 (x26_2 + 1))) else (none)) else (none))) else (none)) else (none)) = some r := by first | (rw [hji19] at H; exact H) | (simp only [hji19] at H ⊢; exact H)
            have hji19w : (IntKind.i64.wrap (x26_2 + (wrap64 (Int.tdiv a1 32)))) = ji19 := (i64_w _).trans hji19
            by_cases c20 : 0 ≤ (ji19)
            ·rw [if_pos c20] at H
             have c20b0 : decide (0 ≤ (ji19)) = true := decide_eq_true c20
             clear c20
             by_cases c21 : (ji19) < (x5_2.length : Int)
             ·rw [if_pos c21] at H
              have c21b0 : decide ((ji19) < (x5_2.length : Int)) = true := decide_eq_true c21
              clear c21
              obtain ⟨y130, hy130⟩ : ∃ y_ : List Int, y_ = (x5_2.set ((ji19) : Int).toNat (Go.bits .or .u32 (rd x5_2 (ji19)) ((ji18) % 4294967296))) := ⟨_, rfl⟩
              replace H : (if 0 ≤ (wrap64 ((ji19) + 1)) then (if (wrap64 ((ji19) + 1)) < (x5_2.length : Int) then (nat_Shift.l0 k2 a1 (y130.set ((wrap64 ((ji19) + 1)) : Int).toNat (Go.bits .or .u32 (rd y130 (wrap64 ((ji19) + 1))) (((ji18) / 4294967296) % 4294967296))) l0 (l0.length : Int) (wrap64 (x26_2 + 1))) else (none)) else (none)) = some r := by first | (rw [hy130]; with_reducible exact H) | (have H2_ := (Option.bind_some _ _).symm.trans H; rw [hy130]; with_reducible exact H2_) | (have H2_ := (Option.bind_some _ _).symm.trans H; with_reducible exact H2_) | with_reducible exact H | (rw [hy130]; exact H) | exact H
              have Ny130 := Aside0.mk hy130
              clear hy130
              obtain ⟨ji23, hji23⟩ : ∃ j_ : Int, (wrap64 ((ji19) + 1)) = j_ := ⟨_, rfl⟩
              replace H : (if 0 ≤ (ji23) then (if (ji23) < (x5_2.length : Int) then (nat_Shift.l0 k2 a1 (y130.set ((ji23) : Int).toNat (Go.bits .or .u32 (rd y130 (ji23)) (((ji18) / 4294967296) % 4294967296))) l0 (l0.length : Int) (wrap64 (x26_2 + 1))) else (none)) else (none)) = some r := by first | (rw [hji23] at H; exact H) | (simp only [hji23] at H ⊢; exact H)
              have hji23w : (IntKind.i64.wrap ((ji19) + 1)) = ji23 := (i64_w _).trans hji23
              by_cases c24 : 0 ≤ (ji23)
              ·rw [if_pos c24] at H
               have c24b0 : decide (0 ≤ (ji23)) = true := decide_eq_true c24
               clear c24
               by_cases c25 : (ji23) < (x5_2.length : Int)
               ·rw [if_pos c25] at H
                have c25b0 : decide ((ji23) < (x5_2.length : Int)) = true := decide_eq_true c25
                clear c25
                obtain ⟨y132, hy132⟩ : ∃ y_ : List Int, y_ = (y130.set ((ji23) : Int).toNat (Go.bits .or .u32 (rd y130 (ji23)) (((ji18) / 4294967296) % 4294967296))) := ⟨_, rfl⟩
                replace H : (nat_Shift.l0 k2 a1 y132 l0 (l0.length : Int) (wrap64 (x26_2 + 1))) = some r := by first | (rw [hy132]; with_reducible exact H) | (have H2_ := (Option.bind_some _ _).symm.trans H; rw [hy132]; with_reducible exact H2_) | (have H2_ := (Option.bind_some _ _).symm.trans H; with_reducible exact H2_) | with_reducible exact H | (rw [hy132]; exact H) | exact H
                have Ny132 := Aside0.mk hy132
                clear hy132
                have H' := Aside0.mk H
                clear H
                have p128 : 0 ≤ (x26_2 : Int) := of_decide_eq_true (by first | (with_reducible assumption) | assumption)
                have q128 : x26_2 < (l0.length : Int) := of_decide_eq_true (by first | (with_reducible assumption) | assumption)
                obtain ⟨ad128, e128, hx128_0⟩ := Kd.at_int HR0.out x26_2 p128 q128
                cases e128
                replace hx128_0 := (HB.out.cell (World.block_lt_of_cell? w _ hx128_0)).trans hx128_0
                replace p128 := eq_true p128
                replace q128 := eq_true q128
                obtain ⟨Ao27, co27, eo27⟩ := Kd.R_slice HO_5.out
                subst eo27
                have p129 : 0 ≤ ((ji19) : Int) := of_decide_eq_true (by first | (with_reducible assumption) | assumption)
                have q129 : (ji19) < (x5_2.length : Int) := of_decide_eq_true (by first | (with_reducible assumption) | assumption)
                obtain ⟨ad129, e129, hx129_0⟩ := Kd.at_int (Kd.R_reads' HO_5.out).2.2 (ji19) p129 q129
                cases e129
                replace p129 := eq_true p129
                replace q129 := eq_true q129
                have p22 : 0 ≤ ((ji19) : Int) := of_decide_eq_true (by first | (with_reducible assumption) | assumption)
                have q22 : ((ji19) : Int) < ((x5_2.length : Int) : Int) := of_decide_eq_true (by first | (with_reducible assumption) | assumption)
                obtain ⟨go22, co22, eo22, gb22, gl22, cl22, HG22⟩ := Kd.R_form HO_5.out (by omega)
                (first | cases eo22 | (injection eo22 with ea_ en_ ec_; (first | subst ea_ | (injection ea_ with ea_; subst ea_)); subst ec_; clear en_))
                have GB22 := Aside0.mk gb22
                have GG22 := Aside0.mk HG22
                clear gb22 gl22 HG22
                (first | simp only [add_plain] at hx129_0 | skip)
                obtain ⟨hx22_0, hf22_0⟩ := Kd.R_celln 0 HO_5.out ((ji19) : Int) p22 q22
                replace p22 := eq_true p22
                replace q22 := eq_true q22
                have HP28 := Kd.R_putg HO_5.out ((ji19) : Int) (Go.bits .or .u32 (rd x5_2 (ji19)) ((ji18) % 4294967296))
                go_wp2_with (first | ((with_reducible refine gate_store (t := 92) (p := 46) rfl ?_); refine store_event (t := 92) (p := 46) (v := ?vo_w29) (w1 := (wr.setCell ⟨go22, ((ji19) : Int).toNat, none⟩ (.int .u32 (Go.bits .or .u32 (rd x5_2 (ji19)) ((ji18) % 4294967296))))) ?hg ?ho ?hn ?hr ?_; (case ho => rfl); (case hg => rfl); (case hn => rfl); (case hr => first | (go_simp; done) | (go_simp; rfl)); intro w29 hw; have hg : wr.grownBy w29 (some go22) := (by rw [hw]; exact HP28.2); have hp_ : Kd.R (Kd.int .u32) 92 w29 w.heap.size (fun _ => True) (.slice (some ⟨go22, 0, none⟩) x5_2.length co27) y130 := (by rw [hw, Ny130.out]; exact HP28.1); clear HP28; replace HO_5 := Aside0.mk (hp_); replace HB := Aside0.mk ((by rw [hw]; exact below_set (HB.out) GB22.out : Below w.heap.size w w29)); clear hg hw hp_; have p131 : 0 ≤ ((ji23) : Int) := of_decide_eq_true (by first | (with_reducible assumption) | assumption); have q131 : (ji23) < (y130.length : Int) := (by have h_ : ((ji23) : Int) < ((x5_2.length : Int) : Int) := of_decide_eq_true (by first | (with_reducible assumption) | assumption); first | (have e_ := (Kd.R_reads' HO_5.out).1; omega) | simpa only [Ny130.out, List.length_set] using h_); have ql131 : (((ji23) : Int) < ((x5_2.length : Int) : Int)) = True := eq_true (of_decide_eq_true (by first | (with_reducible assumption) | assumption)); obtain ⟨ad131, e131, hx131_0⟩ := Kd.at_int (Kd.R_reads' HO_5.out).2.2 (ji23) p131 q131; obtain rfl : (⟨go22, 0, none⟩ : Addr) = ad131 := (by injection e131); (first | simp only [add_plain] at hx131_0 | simp only [add_at] at hx131_0 | simp only [Addr.add, Nat.zero_add] at hx131_0 | skip); replace p131 := eq_true p131; replace q131 := eq_true q131; have p26 : 0 ≤ ((ji23) : Int) := of_decide_eq_true (by first | (with_reducible assumption) | assumption); have q26 : ((ji23) : Int) < ((x5_2.length : Int) : Int) := of_decide_eq_true (by first | (with_reducible assumption) | assumption); obtain ⟨hx26_0, hf26_0⟩ := Kd.R_celln 0 HO_5.out ((ji23) : Int) p26 q26; replace p26 := eq_true p26; replace q26 := eq_true q26; obtain ⟨hy30_, hz30_⟩ := Kd.R_celln 0 HO_5.out ((ji23) : Int) (of_decide_eq_true (by first | (with_reducible assumption) | assumption)) (of_decide_eq_true (by first | (with_reducible assumption) | assumption)); have HP30 := Kd.R_putg HO_5.out ((ji23) : Int) (Go.bits .or .u32 (rd y130 (ji23)) (((ji18) / 4294967296) % 4294967296))) | ((with_reducible refine gate_store (t := 92) (p := 59) rfl ?_); refine store_event (t := 92) (p := 59) (v := ?vo_w31) (w1 := (w29.setCell ⟨go22, ((ji23) : Int).toNat, none⟩ (.int .u32 (Go.bits .or .u32 (rd y130 (ji23)) (((ji18) / 4294967296) % 4294967296))))) ?hg ?ho ?hn ?hr ?_; (case ho => rfl); (case hg => rfl); (case hn => rfl); (case hr => first | (go_simp; done) | (go_simp; rfl)); intro w31 hw; have hg : w29.grownBy w31 (some go22) := (by rw [hw]; exact HP30.2); have hp_ : Kd.R (Kd.int .u32) 92 w31 w.heap.size (fun _ => True) (.slice (some ⟨go22, 0, none⟩) x5_2.length co27) y132 := (by rw [hw, Ny132.out]; exact HP30.1); clear HP30; replace HO_5 := Aside0.mk (hp_); replace HB := Aside0.mk ((by rw [hw]; exact below_set (HB.out) GB22.out : Below w.heap.size w w31)); clear hg hw hp_))
                go_roundg k2
                case measure => have := HJ2.out; have := HK2.out; omega
                case rel => exact ⟨(y132), (wrap64 (x26_2 + 1)), (by first | rfl | (simp; done) | (simp [*]; done)), H', ⟨by have := HJ2.out; have := HK2.out; omega⟩, ⟨by (with_reducible repeat (first | apply Kd.R_alloc | apply Kd.R_drewN | apply Kd.R_drew)); exact HO_5.out⟩, ⟨by repeat (first | (with_reducible first | exact HB.out | apply below_alloc | apply pw_below_drewN | apply below_drew1) | exact HB.out)⟩⟩
               ·rw [if_neg c25] at H
                exact absurd H (by simp)
              ·rw [if_neg c24] at H
               exact absurd H (by simp)
             ·rw [if_neg c21] at H
              exact absurd H (by simp)
            ·rw [if_neg c20] at H
             exact absurd H (by simp)
           ·rw [if_neg c17] at H
            exact absurd H (by simp)
          ·rw [if_neg c15] at H
           exact absurd H (by simp)
         ·rw [if_neg c14] at H
          exact absurd H (by simp)
        ·rw [if_neg c13] at H
         have c13b0 : decide (x26_2 < (l0.length : Int)) = false := decide_eq_false c13
         clear c13
         replace H := Option.bind_eq_some_iff.mp H
         obtain ⟨t133, A320, H⟩ := H
         replace H : (some t133) = some r := H
         have A32 := Aside0.mk A320
         clear A320
         obtain rfl := Option.some.inj H
         obtain ⟨Ao33, co33, eo33⟩ := Kd.R_slice HO_5.out
         subst eo33
         go_wp2_with (first | ((with_reducible refine gate_callee (f := 71) rfl ?_); refine Short.goesS_ (some 62) Try.func71 #[.slice Ao33 x5_2.length co33] ?_; (with_reducible refine (nat_trim.calls k2 _ _ x5_2 t133 _ ((Kd.R_reads' HO_5.out).2.2) ((Kd.R_reads' HO_5.out).2.1) A32.out).mono ?_); rintro e w34 ⟨v134, rfl, ho0, hb⟩; refine ⟨_, rfl, ?_⟩; have HO135 := Aside0.mk (Kd.R_lower (Kd.R_new' ho0 (Kd.R_lt HO_5.out)) (below_size (by repeat (first | (with_reducible first | exact HB.out | apply below_alloc | apply pw_below_drewN | apply below_drew1) | exact HB.out)))); replace HO_5 := Aside0.mk (Kd.R_elder' HO_5.out (Kd.R_base ho0) hb); replace HB := Aside0.mk (below_step (by repeat (first | (with_reducible first | exact HB.out | apply below_alloc | apply pw_below_drewN | apply below_drew1) | exact HB.out)) hb); (try clear hb); (try clear ho0)))
         go_ret
         exact ⟨_, by first | rfl | (simp [errW_none, errW_some] <;> rfl) | (simp only [← hji8]; first | rfl | (simp [errW_none, errW_some] <;> rfl)) | (simp [*, errW_none, errW_some] <;> rfl), by (with_reducible repeat (first | apply Kd.R_alloc | apply Kd.R_drewN | apply Kd.R_drew)); exact Kd.R_mono HO135.out (fun _ hk => trivial), by repeat (first | (with_reducible first | exact HB.out | apply below_alloc | apply pw_below_drewN | apply below_drew1) | exact HB.out)⟩
     ·rw [if_neg c10] at H
      exact absurd H (by simp)
    ·rw [if_neg c9] at H
     exact absurd H (by simp)

theorem nat_Shift.or_sum {r x y : Nat} (hr : r ≤ 32) (hx : x < 2 ^ r) (hy : y % 2 ^ r = 0) (hy1 : y < 4294967296) : Go.bits .or .u32 (x : Int) (y : Int) = ((x + y : Nat) : Int) := by
 have hc : Go.bits .or .u32 (x : Int) (y : Int) = Go.bits .or .u32 (y : Int) (x : Int) := by simp only [bits, BitVec.or_comm]
 have hp : 2 ^ r ≤ 2 ^ 32 := Nat.pow_le_pow_right (by omega) hr
 have wu : ∀ n : Int, 0 ≤ n → n < 2 ^ 32 → IntKind.u32.wrap n = n := by
  intro n h0 h1
  have : IntKind.u32.wrap n = n % 4294967296 := by simp [IntKind.wrap, IntKind.bits, IntKind.signed]
  rw [this]
  have h2 : n < 4294967296 := h1
  omega
 have hx32 : x < 2 ^ 32 := by omega
 rw [hc, bits_join .u32 32 (by decide) wu r (y : Int) (x : Int) (by omega) (by exact_mod_cast hy) (by exact_mod_cast hy1) (by omega) (by exact_mod_cast hx) (by exact_mod_cast hx32)]
 omega
theorem nat_Shift.ev_l {a : List Int} (ha : Num.Ws a) (hla : a.length < 1099511627776) {n : Nat} (hn : n ≤ 65536) (d : Nat) : ∀ (i : Nat) (x : List Int), i + d = a.length → x.length = a.length + n / 32 + 1 → Num.Ws x →
  Num.nv x = 2 ^ n * Num.nv (a.take i) → Ev (fun k => nat_Shift.l0 k (n : Int) x a (a.length : Int) (i : Int)) (Num.nd (2 ^ n * Num.nv a)) := by
 induction d with
 | zero =>
  intro i x hi hx hW hv
  obtain rfl : i = a.length := by omega
  rw [List.take_of_length_le (Nat.le_refl _)] at hv
  refine Ev.step (f := fun k => (nat_trim.f k x).bind fun t => some t) (fun k => ?_) ?_
  ·simp only [nat_Shift.l0]
   rw [if_neg (by omega)]
  ·rw [← hv]
   exact Ev.bind (nat_trim.ev hW (by omega)) (Ev.now _)
 | succ d ih =>
  intro i x hi hx hW hv
  have hga := ha.getD i
  obtain ⟨p, hp⟩ : ∃ p : Nat, (p : Int) = a.getD i 0 := ⟨(a.getD i 0).toNat, by omega⟩
  obtain ⟨q, hq⟩ : ∃ q, q = n / 32 := ⟨_, rfl⟩
  obtain ⟨r, hr⟩ : ∃ r, r = n % 32 := ⟨_, rfl⟩
  have hnq : n = 32 * q + r := by omega
  have hr31 : r ≤ 31 := by omega
  have hxq : i + q + 1 < x.length := by omega
  -- the words at i + q and behind it
  have hR : 2 ^ r ≤ 4294967296 := Nat.le_trans (Nat.pow_le_pow_right (n := 2) (by omega) hr31) (by decide)
  have htk := Num.nv_take_lt ha i (by omega)
  have hxlt : Num.nv x < 2 ^ (32 * (i + q)) * 2 ^ r := by
   rw [hv, ← Nat.pow_add, show 32 * (i + q) + r = n + 32 * i from by omega, Nat.pow_add]
   exact Nat.mul_lt_mul_of_pos_left htk (Nat.two_pow_pos _)
  obtain ⟨ht1, ht2⟩ := Num.nv_top hR (by omega) hxlt
  have hx1 : x.getD (i + q + 1) 0 = 0 := by
   have := Num.nv_zero_getD (hW.drop _) ht2 0
   simpa using this
  have hgx := hW.getD (i + q)
  obtain ⟨u, hu⟩ : ∃ u : Nat, (u : Int) = x.getD (i + q) 0 := ⟨(x.getD (i + q) 0).toNat, by omega⟩
  have hu1 : u < 2 ^ r := by rw [← hu] at ht1; simpa using ht1
  have hpr : p * 2 ^ r < 4294967296 * 2 ^ r := Nat.mul_lt_mul_of_pos_right (by omega) (Nat.two_pow_pos _)
  have hhi : p * 2 ^ r / 4294967296 < 2 ^ r := Nat.div_lt_of_lt_mul hpr
  have hlo : (p * 2 ^ r) % 4294967296 % 2 ^ r = 0 := by
   rw [Nat.mod_mod_of_dvd _ (show 2 ^ r ∣ 4294967296 from Nat.pow_dvd_pow 2 (show r ≤ 32 from by omega))]
   exact Nat.mul_mod_left _ _
  have c1 : (i : Int) < (a.length : Int) := by omega
  have c2 : 0 ≤ (i : Int) := by omega
  have c4 : 0 ≤ (r : Int) := by omega
  have c5 : 0 ≤ ((i + q : Nat) : Int) := by omega
  have c6 : ((i + q : Nat) : Int) < (x.length : Int) := by omega
  have c7 : 0 ≤ ((i + q + 1 : Nat) : Int) := by omega
  have c8 : ((i + q + 1 : Nat) : Int) < (x.length : Int) := by omega
  have b1 : q < 9223372036854775808 := by omega
  have b2 : i + q < 9223372036854775808 := by omega
  have b3 : i + q + 1 < 9223372036854775808 := by omega
  have b4 : i + 1 < 9223372036854775808 := by omega
  have b6 : p < 4294967296 := by omega
  have b5 : p < 18446744073709551616 := by omega
  have b7 : p * 2 ^ r / 4294967296 < 4294967296 := by omega
  have b8 : r ≤ 32 := by omega
  have b9 : p * 2 ^ r % 4294967296 < 4294967296 := by omega
  refine Ev.step (f := fun k => nat_Shift.l0 k (n : Int) ((x.set (i + q) ((u + p * 2 ^ r % 4294967296 : Nat) : Int)).set (i + q + 1) ((p * 2 ^ r / 4294967296 : Nat) : Int)) a (a.length : Int) ((i + 1 : Nat) : Int)) (fun k => ?_) ?_
  ·have t1 : Int.tdiv (n : Int) 32 = (q : Int) := by rw [hq]; rfl
   have t2 : Int.tmod (n : Int) 32 = (r : Int) := by rw [hr]; rfl
   have t3 := w64_nat q b1
   have t4 := w64_add i q b2
   have t5 := w64_succ (i + q) b3
   have t6 := w64_succ i b4
   have r1 := rd_at hp
   have r2 := rd_at hu
   have s0 := u64_nat p b5
   have s1 := shl64_nat p r b6 hr31
   have s2 := mod32_nat (p * 2 ^ r)
   have s3 : ((p * 2 ^ r : Nat) : Int) / 4294967296 % 4294967296 = ((p * 2 ^ r / 4294967296 : Nat) : Int) := by rw [div32_nat, mod32_nat, Nat.mod_eq_of_lt b7]
   have o1 := nat_Shift.or_sum (r := r) b8 hu1 hlo b9
   have r3 : rd (x.set (i + q) ((u + p * 2 ^ r % 4294967296 : Nat) : Int)) ((i + q + 1 : Nat) : Int) = ((0 : Nat) : Int) := by
    rw [rd_nat, List.getD_eq_getElem?_getD, List.getElem?_set_ne (Nat.ne_of_lt (Nat.lt_succ_self _)), ← List.getD_eq_getElem?_getD, hx1]
    rfl
   have o2 : Go.bits .or .u32 ((0 : Nat) : Int) ((p * 2 ^ r / 4294967296 : Nat) : Int) = ((p * 2 ^ r / 4294967296 : Nat) : Int) := by
    have := nat_Shift.or_sum (r := 0) (x := 0) (y := p * 2 ^ r / 4294967296) (Nat.zero_le _) (by decide) (Nat.mod_one _) b7
    rw [this, Nat.zero_add]
   simp only [nat_Shift.l0, t1, t2, t3, t4, t5, t6]
   rw [if_pos c1, if_pos c2, if_pos c1, if_pos c4, if_pos c5, if_pos c6, r1, r2, s0, s1, s2, s3, o1]
   simp only [Option.bind_some]
   rw [if_pos c7, if_pos c8]
   simp only [Int.toNat_natCast]
   rw [r3, o2]
  ·have hM : u + p * 2 ^ r % 4294967296 < 4294967296 := by
    have h1 : p * 2 ^ r % 4294967296 + 2 ^ r ≤ 4294967296 := by
     obtain ⟨m, hm⟩ := Nat.dvd_of_mod_eq_zero hlo
     obtain ⟨m', hm'⟩ : 2 ^ r ∣ 4294967296 := Nat.pow_dvd_pow 2 (show r ≤ 32 from by omega)
     have hlt : p * 2 ^ r % 4294967296 < 4294967296 := Nat.mod_lt _ (by omega)
     rw [hm] at hlt ⊢
     rw [hm'] at hlt ⊢
     have := Nat.lt_of_mul_lt_mul_left hlt
     have := Nat.mul_le_mul_left (2 ^ r) (show m + 1 ≤ m' from this)
     rw [Nat.mul_add] at this
     omega
    omega
   refine ih (i + 1) _ (by omega) (by rw [List.length_set, List.length_set]; exact hx) ((hW.set _ (by omega) (by omega)).set _ (by omega) (by omega)) ?_
   have v1 := Num.nv_set (l := x) (i := i + q) (by omega) ((u + p * 2 ^ r % 4294967296 : Nat) : Int)
   have v2 := Num.nv_set (l := x.set (i + q) ((u + p * 2 ^ r % 4294967296 : Nat) : Int)) (i := i + q + 1) (by rw [List.length_set]; omega) ((p * 2 ^ r / 4294967296 : Nat) : Int)
   rw [List.getD_eq_getElem?_getD, List.getElem?_set_ne (by omega), ← List.getD_eq_getElem?_getD, hx1] at v2
   rw [← hu] at v1
   rw [Int.toNat_natCast] at v1 v2
   simp only [Int.toNat_natCast, Int.toNat_zero, Nat.mul_zero, Nat.add_zero] at v1 v2
   rw [Num.nv_take_succ, ← hp, Int.toNat_natCast, Nat.mul_add]
   have hs := Num.split_mul (2 ^ (32 * (i + q))) (p * 2 ^ r)
   rw [Num.pow_succ32] at v2
   have hfin : 2 ^ n * (2 ^ (32 * i) * p) = 2 ^ (32 * (i + q)) * (p * 2 ^ r) := by
    rw [hnq, Nat.pow_add, show 32 * (i + q) = 32 * i + 32 * q from by omega, Nat.pow_add]
    simp only [Nat.mul_assoc, Nat.mul_comm, Nat.mul_left_comm]
   rw [hfin, ← hs, ← hv]
   rw [Nat.mul_add (2 ^ (32 * (i + q)))] at v1
   omega
theorem nat_Shift.ev {a : List Int} (ha : Num.okw a = true) {n : Nat} (hn : n ≤ 65536) : Ev (fun k => nat_Shift.f k a (n : Int)) (Num.nd (2 ^ n * Num.nv a)) := by
 obtain ⟨la, wa⟩ := (Num.okw_iff a).1 ha
 have h := nat_Shift.ev_l wa la hn a.length 0 (List.replicate (a.length + n / 32 + 1) 0) (by omega) (by simp) (Num.Ws.replicate _) (by simp [Num.nv, Num.nv_replicate])
 refine Ev.congr (f := fun k => nat_Shift.j0 k a (n : Int) false) (fun k => ?_) (Ev.step (fun k => ?_) h)
 ·unfold nat_Shift.f
  rw [if_neg (by omega), decide_eq_false (by omega)]
 ·have t1 : Int.tdiv (n : Int) 32 = ((n / 32 : Nat) : Int) := rfl
  have t3 := w64_nat (n / 32) (by omega)
  have t4 := w64_add a.length (n / 32) (by omega)
  have t5 := w64_succ (a.length + n / 32) (by omega)
  have c1 : 0 ≤ ((a.length + n / 32 + 1 : Nat) : Int) := by omega
  have c2 : a.length + n / 32 + 1 ≤ 70368744177664 := by omega
  simp only [nat_Shift.j0, t1, t3, t4, t5]
  rw [if_neg (by decide), if_pos c1, Int.toNat_natCast, if_pos c2]
  rfl
theorem nat_Shift.ev_out {a : List Int} (ha : Num.okw a = true) {n : Int} (hn : n < 0 ∨ 65536 < n) : Ev (fun k => nat_Shift.f k a n) (Num.nd (Num.nv a)) := by
 obtain ⟨la, wa⟩ := (Num.okw_iff a).1 ha
 refine Ev.congr (f := fun k => nat_Shift.j0 k a n true) (fun k => ?_) (Ev.step (f := fun k => (nat_trim.f k a).bind fun t => some t) (fun k => ?_) (Ev.bind (nat_trim.ev wa (by omega)) (Ev.now _)))
 ·unfold nat_Shift.f
  by_cases h : n < 0
  ·rw [if_pos h]
  ·rw [if_neg h, decide_eq_true (by omega)]
 ·simp only [nat_Shift.j0]
  rw [if_pos trivial]
set_option synthInstance.checkSynthOrder false in
open Lin in
instance nat_Shift.t {k : Nat} {l0 : List Int} {a1 : Int} {r : List Int} [h : Ans (nat_Shift.f k l0 a1) r] : Tl Try.prog 44 [.one (.row l0), .one (.val (.int .i64 a1))] (.el (.one (.row r))) := ⟨Tells.of Try.func44 fun out w vs ho hl hv => by
 obtain ⟨u0, u1, rfl, h0, h1⟩ := args2 hl hv
 obtain ⟨A0, c0, rfl, hc0, hr0, hb0⟩ := h0
 obtain rfl := h1.1
 refine (nat_Shift.calls k A0 c0 l0 a1 _ w hr0 hc0 h.out).mono ?_
 rintro e w' ⟨v0_, rfl, gv0_, hb⟩
 exact ⟨_, rfl, row_R gv0_ ho, hb⟩⟩
def whole_Make.f (k : Nat) (a0 : Bool) (l1 : List Int) : Option (Bool × List Int) := (nat_Shift.f k l1 0).bind fun t137 => (if a0 = true then (some (decide ((t137.length : Int) > 0), t137)) else (some (false, t137)))
theorem whole_Make.ev {m : Bool} {l : List Int} {z : Int} {K : Nat} (h : Zn.Is m l z K) (hK : K < 1000000) : Ev (fun k => whole_Make.f k m l) (Zn.zd z) := by
 have hl := h.len
 have S : Ev (fun k => nat_Shift.f k l 0) (Num.nd (2 ^ 0 * Num.nv l)) := nat_Shift.ev (Num.okw_of (by omega) h.ws) (n := 0) (by omega)
 rw [Nat.pow_zero, Nat.one_mul] at S
 rw [← h.val, Zn.zd_zv]
 unfold whole_Make.f
 refine Ev.bind S ?_
 cases m
 ·rw [decide_eq_false (show ¬ (false = true ∧ Num.nv l ≠ 0) by simp)]
  exact Dec.no (by decide) (Ev.now _)
 ·have e : decide (true = true ∧ Num.nv l ≠ 0) = decide (((Num.nd (Num.nv l)).length : Int) > 0) := by
   have := Zn.nd_len_pos (Num.nv l)
   refine decide_eq_decide.2 ⟨fun h => ?_, fun h => ⟨rfl, ?_⟩⟩
   ·have := this.2 h.2
    omega
   ·exact this.1 (by omega)
  rw [e]
  exact Dec.yes rfl (Ev.now _)
set_option synthInstance.checkSynthOrder false in
open Lin in
set_option maxHeartbeats 4000000 in
instance whole_Make.t {k : Nat} {a0 : Bool} {l1 : List Int} {r : Bool × List Int} [h : Ans (whole_Make.f k a0 l1) r] : Tl Try.prog 43 [.one (.val (.bool a0)), .one (.row l1)] (.el (.agg [.val (.bool r.1), .row r.2])) := by
 have h := h.out
 unfold whole_Make.f at h
 repeat' (first | (replace h := Lin.bndK h) | (replace h := Lin.bnd h; obtain ⟨_, _, h⟩ := h) | split at h | cases h)
 all_goals exact ⟨Tells.go Try.func43 Try.ntmps43⟩
def bits_Len32.f (a0 : Int) : Option (Int) := if a0 ≥ 65536 then (if (a0 / 65536) ≥ 256 then (if 0 ≤ (((a0 / 65536) / 256) % 256) then (if (((a0 / 65536) / 256) % 256) < 256 then (some (wrap64 ((16 + 8) + (wrap64 (bt (⟨#[0, 1, 2, 2, 3, 3, 3, 3, 4, 4, 4, 4, 4, 4, 4, 4, 5, 5, 5, 5, 5, 5, 5, 5, 5, 5, 5, 5, 5, 5, 5, 5, 6, 6, 6, 6, 6, 6, 6, 6, 6, 6, 6, 6, 6, 6, 6, 6, 6, 6, 6, 6, 6, 6, 6, 6, 6, 6, 6, 6, 6, 6, 6, 6, 7, 7, 7, 7, 7, 7, 7, 7, 7, 7, 7, 7, 7, 7, 7, 7, 7, 7, 7, 7, 7, 7, 7, 7, 7, 7, 7, 7, 7, 7, 7, 7, 7, 7, 7, 7, 7, 7, 7, 7, 7, 7, 7, 7, 7, 7, 7, 7, 7, 7, 7, 7, 7, 7, 7, 7, 7, 7, 7, 7, 7, 7, 7, 7, 8, 8, 8, 8, 8, 8, 8, 8, 8, 8, 8, 8, 8, 8, 8, 8, 8, 8, 8, 8, 8, 8, 8, 8, 8, 8, 8, 8, 8, 8, 8, 8, 8, 8, 8, 8, 8, 8, 8, 8, 8, 8, 8, 8, 8, 8, 8, 8, 8, 8, 8, 8, 8, 8, 8, 8, 8, 8, 8, 8, 8, 8, 8, 8, 8, 8, 8, 8, 8, 8, 8, 8, 8, 8, 8, 8, 8, 8, 8, 8, 8, 8, 8, 8, 8, 8, 8, 8, 8, 8, 8, 8, 8, 8, 8, 8, 8, 8, 8, 8, 8, 8, 8, 8, 8, 8, 8, 8, 8, 8, 8, 8, 8, 8, 8, 8, 8, 8, 8, 8, 8, 8, 8, 8, 8, 8, 8, 8]⟩ : ByteArray) (((a0 / 65536) / 256) % 256)))))) else (none)) else (none)) else (if 0 ≤ ((a0 / 65536) % 256) then (if ((a0 / 65536) % 256) < 256 then (some (wrap64 (16 + (wrap64 (bt (⟨#[0, 1, 2, 2, 3, 3, 3, 3, 4, 4, 4, 4, 4, 4, 4, 4, 5, 5, 5, 5, 5, 5, 5, 5, 5, 5, 5, 5, 5, 5, 5, 5, 6, 6, 6, 6, 6, 6, 6, 6, 6, 6, 6, 6, 6, 6, 6, 6, 6, 6, 6, 6, 6, 6, 6, 6, 6, 6, 6, 6, 6, 6, 6, 6, 7, 7, 7, 7, 7, 7, 7, 7, 7, 7, 7, 7, 7, 7, 7, 7, 7, 7, 7, 7, 7, 7, 7, 7, 7, 7, 7, 7, 7, 7, 7, 7, 7, 7, 7, 7, 7, 7, 7, 7, 7, 7, 7, 7, 7, 7, 7, 7, 7, 7, 7, 7, 7, 7, 7, 7, 7, 7, 7, 7, 7, 7, 7, 7, 8, 8, 8, 8, 8, 8, 8, 8, 8, 8, 8, 8, 8, 8, 8, 8, 8, 8, 8, 8, 8, 8, 8, 8, 8, 8, 8, 8, 8, 8, 8, 8, 8, 8, 8, 8, 8, 8, 8, 8, 8, 8, 8, 8, 8, 8, 8, 8, 8, 8, 8, 8, 8, 8, 8, 8, 8, 8, 8, 8, 8, 8, 8, 8, 8, 8, 8, 8, 8, 8, 8, 8, 8, 8, 8, 8, 8, 8, 8, 8, 8, 8, 8, 8, 8, 8, 8, 8, 8, 8, 8, 8, 8, 8, 8, 8, 8, 8, 8, 8, 8, 8, 8, 8, 8, 8, 8, 8, 8, 8, 8, 8, 8, 8, 8, 8, 8, 8, 8, 8, 8, 8, 8, 8, 8, 8, 8, 8]⟩ : ByteArray) ((a0 / 65536) % 256)))))) else (none)) else (none))) else (if a0 ≥ 256 then (if 0 ≤ ((a0 / 256) % 256) then (if ((a0 / 256) % 256) < 256 then (some (wrap64 ((0 + 8) + (wrap64 (bt (⟨#[0, 1, 2, 2, 3, 3, 3, 3, 4, 4, 4, 4, 4, 4, 4, 4, 5, 5, 5, 5, 5, 5, 5, 5, 5, 5, 5, 5, 5, 5, 5, 5, 6, 6, 6, 6, 6, 6, 6, 6, 6, 6, 6, 6, 6, 6, 6, 6, 6, 6, 6, 6, 6, 6, 6, 6, 6, 6, 6, 6, 6, 6, 6, 6, 7, 7, 7, 7, 7, 7, 7, 7, 7, 7, 7, 7, 7, 7, 7, 7, 7, 7, 7, 7, 7, 7, 7, 7, 7, 7, 7, 7, 7, 7, 7, 7, 7, 7, 7, 7, 7, 7, 7, 7, 7, 7, 7, 7, 7, 7, 7, 7, 7, 7, 7, 7, 7, 7, 7, 7, 7, 7, 7, 7, 7, 7, 7, 7, 8, 8, 8, 8, 8, 8, 8, 8, 8, 8, 8, 8, 8, 8, 8, 8, 8, 8, 8, 8, 8, 8, 8, 8, 8, 8, 8, 8, 8, 8, 8, 8, 8, 8, 8, 8, 8, 8, 8, 8, 8, 8, 8, 8, 8, 8, 8, 8, 8, 8, 8, 8, 8, 8, 8, 8, 8, 8, 8, 8, 8, 8, 8, 8, 8, 8, 8, 8, 8, 8, 8, 8, 8, 8, 8, 8, 8, 8, 8, 8, 8, 8, 8, 8, 8, 8, 8, 8, 8, 8, 8, 8, 8, 8, 8, 8, 8, 8, 8, 8, 8, 8, 8, 8, 8, 8, 8, 8, 8, 8, 8, 8, 8, 8, 8, 8, 8, 8, 8, 8, 8, 8, 8, 8, 8, 8, 8, 8]⟩ : ByteArray) ((a0 / 256) % 256)))))) else (none)) else (none)) else (if 0 ≤ ((a0) % 256) then (if ((a0) % 256) < 256 then (some (wrap64 (0 + (wrap64 (bt (⟨#[0, 1, 2, 2, 3, 3, 3, 3, 4, 4, 4, 4, 4, 4, 4, 4, 5, 5, 5, 5, 5, 5, 5, 5, 5, 5, 5, 5, 5, 5, 5, 5, 6, 6, 6, 6, 6, 6, 6, 6, 6, 6, 6, 6, 6, 6, 6, 6, 6, 6, 6, 6, 6, 6, 6, 6, 6, 6, 6, 6, 6, 6, 6, 6, 7, 7, 7, 7, 7, 7, 7, 7, 7, 7, 7, 7, 7, 7, 7, 7, 7, 7, 7, 7, 7, 7, 7, 7, 7, 7, 7, 7, 7, 7, 7, 7, 7, 7, 7, 7, 7, 7, 7, 7, 7, 7, 7, 7, 7, 7, 7, 7, 7, 7, 7, 7, 7, 7, 7, 7, 7, 7, 7, 7, 7, 7, 7, 7, 8, 8, 8, 8, 8, 8, 8, 8, 8, 8, 8, 8, 8, 8, 8, 8, 8, 8, 8, 8, 8, 8, 8, 8, 8, 8, 8, 8, 8, 8, 8, 8, 8, 8, 8, 8, 8, 8, 8, 8, 8, 8, 8, 8, 8, 8, 8, 8, 8, 8, 8, 8, 8, 8, 8, 8, 8, 8, 8, 8, 8, 8, 8, 8, 8, 8, 8, 8, 8, 8, 8, 8, 8, 8, 8, 8, 8, 8, 8, 8, 8, 8, 8, 8, 8, 8, 8, 8, 8, 8, 8, 8, 8, 8, 8, 8, 8, 8, 8, 8, 8, 8, 8, 8, 8, 8, 8, 8, 8, 8, 8, 8, 8, 8, 8, 8, 8, 8, 8, 8, 8, 8, 8, 8, 8, 8, 8, 8]⟩ : ByteArray) ((a0) % 256)))))) else (none)) else (none)))
set_option maxHeartbeats 8000000 in
set_option maxRecDepth 100000 in
theorem bits_Len32.calls (a0 : Int) (r : Int) (w : World) (h : bits_Len32.f a0 = some r) :
  Calls Try.prog 103 #[.int .u32 a0] w fun e w' => e = .returned (.int .i64 r) ∧ Drawn0 w w' := by
 have H : (if a0 ≥ 65536 then (if (a0 / 65536) ≥ 256 then (if 0 ≤ (((a0 / 65536) / 256) % 256) then (if (((a0 / 65536) / 256) % 256) < 256 then (some (wrap64 ((16 + 8) + (wrap64 (bt (⟨#[0, 1, 2, 2, 3, 3, 3, 3, 4, 4, 4, 4, 4, 4, 4, 4, 5, 5, 5, 5, 5, 5, 5, 5, 5, 5, 5, 5, 5, 5, 5, 5, 6, 6, 6, 6, 6, 6, 6, 6, 6, 6, 6, 6, 6, 6, 6, 6, 6, 6, 6, 6, 6, 6, 6, 6, 6, 6, 6, 6, 6, 6, 6, 6, 7, 7, 7, 7, 7, 7, 7, 7, 7, 7, 7, 7, 7, 7, 7, 7, 7, 7, 7, 7, 7, 7, 7, 7, 7, 7, 7, 7, 7, 7, 7, 7, 7, 7, 7, 7, 7, 7, 7, 7, 7, 7, 7, 7, 7, 7, 7, 7, 7, 7, 7, 7, 7, 7, 7, 7, 7, 7, 7, 7, 7, 7, 7, 7, 8, 8, 8, 8, 8, 8, 8, 8, 8, 8, 8, 8, 8, 8, 8, 8, 8, 8, 8, 8, 8, 8, 8, 8, 8, 8, 8, 8, 8, 8, 8, 8, 8, 8, 8, 8, 8, 8, 8, 8, 8, 8, 8, 8, 8, 8, 8, 8, 8, 8, 8, 8, 8, 8, 8, 8, 8, 8, 8, 8, 8, 8, 8, 8, 8, 8, 8, 8, 8, 8, 8, 8, 8, 8, 8, 8, 8, 8, 8, 8, 8, 8, 8, 8, 8, 8, 8, 8, 8, 8, 8, 8, 8, 8, 8, 8, 8, 8, 8, 8, 8, 8, 8, 8, 8, 8, 8, 8, 8, 8, 8, 8, 8, 8, 8, 8, 8, 8, 8, 8, 8, 8, 8, 8, 8, 8, 8, 8]⟩ : ByteArray) (((a0 / 65536) / 256) % 256)))))) else (none)) else (none)) else (if 0 ≤ ((a0 / 65536) % 256) then (if ((a0 / 65536) % 256) < 256 then (some (wrap64 (16 + (wrap64 (bt (⟨#[0, 1, 2, 2, 3, 3, 3, 3, 4, 4, 4, 4, 4, 4, 4, 4, 5, 5, 5, 5, 5, 5, 5, 5, 5, 5, 5, 5, 5, 5, 5, 5, 6, 6, 6, 6, 6, 6, 6, 6, 6, 6, 6, 6, 6, 6, 6, 6, 6, 6, 6, 6, 6, 6, 6, 6, 6, 6, 6, 6, 6, 6, 6, 6, 7, 7, 7, 7, 7, 7, 7, 7, 7, 7, 7, 7, 7, 7, 7, 7, 7, 7, 7, 7, 7, 7, 7, 7, 7, 7, 7, 7, 7, 7, 7, 7, 7, 7, 7, 7, 7, 7, 7, 7, 7, 7, 7, 7, 7, 7, 7, 7, 7, 7, 7, 7, 7, 7, 7, 7, 7, 7, 7, 7, 7, 7, 7, 7, 8, 8, 8, 8, 8, 8, 8, 8, 8, 8, 8, 8, 8, 8, 8, 8, 8, 8, 8, 8, 8, 8, 8, 8, 8, 8, 8, 8, 8, 8, 8, 8, 8, 8, 8, 8, 8, 8, 8, 8, 8, 8, 8, 8, 8, 8, 8, 8, 8, 8, 8, 8, 8, 8, 8, 8, 8, 8, 8, 8, 8, 8, 8, 8, 8, 8, 8, 8, 8, 8, 8, 8, 8, 8, 8, 8, 8, 8, 8, 8, 8, 8, 8, 8, 8, 8, 8, 8, 8, 8, 8, 8, 8, 8, 8, 8, 8, 8, 8, 8, 8, 8, 8, 8, 8, 8, 8, 8, 8, 8, 8, 8, 8, 8, 8, 8, 8, 8, 8, 8, 8, 8, 8, 8, 8, 8, 8, 8]⟩ : ByteArray) ((a0 / 65536) % 256)))))) else (none)) else (none))) else (if a0 ≥ 256 then (if 0 ≤ ((a0 / 256) % 256) then (if ((a0 / 256) % 256) < 256 then (some (wrap64 ((0 + 8) + (wrap64 (bt (⟨#[0, 1, 2, 2, 3, 3, 3, 3, 4, 4, 4, 4, 4, 4, 4, 4, 5, 5, 5, 5, 5, 5, 5, 5, 5, 5, 5, 5, 5, 5, 5, 5, 6, 6, 6, 6, 6, 6, 6, 6, 6, 6, 6, 6, 6, 6, 6, 6, 6, 6, 6, 6, 6, 6, 6, 6, 6, 6, 6, 6, 6, 6, 6, 6, 7, 7, 7, 7, 7, 7, 7, 7, 7, 7, 7, 7, 7, 7, 7, 7, 7, 7, 7, 7, 7, 7, 7, 7, 7, 7, 7, 7, 7, 7, 7, 7, 7, 7, 7, 7, 7, 7, 7, 7, 7, 7, 7, 7, 7, 7, 7, 7, 7, 7, 7, 7, 7, 7, 7, 7, 7, 7, 7, 7, 7, 7, 7, 7, 8, 8, 8, 8, 8, 8, 8, 8, 8, 8, 8, 8, 8, 8, 8, 8, 8, 8, 8, 8, 8, 8, 8, 8, 8, 8, 8, 8, 8, 8, 8, 8, 8, 8, 8, 8, 8, 8, 8, 8, 8, 8, 8, 8, 8, 8, 8, 8, 8, 8, 8, 8, 8, 8, 8, 8, 8, 8, 8, 8, 8, 8, 8, 8, 8, 8, 8, 8, 8, 8, 8, 8, 8, 8, 8, 8, 8, 8, 8, 8, 8, 8, 8, 8, 8, 8, 8, 8, 8, 8, 8, 8, 8, 8, 8, 8, 8, 8, 8, 8, 8, 8, 8, 8, 8, 8, 8, 8, 8, 8, 8, 8, 8, 8, 8, 8, 8, 8, 8, 8, 8, 8, 8, 8, 8, 8, 8, 8]⟩ : ByteArray) ((a0 / 256) % 256)))))) else (none)) else (none)) else (if 0 ≤ ((a0) % 256) then (if ((a0) % 256) < 256 then (some (wrap64 (0 + (wrap64 (bt (⟨#[0, 1, 2, 2, 3, 3, 3, 3, 4, 4, 4, 4, 4, 4, 4, 4, 5, 5, 5, 5, 5, 5, 5, 5, 5, 5, 5, 5, 5, 5, 5, 5, 6, 6, 6, 6, 6, 6, 6, 6, 6, 6, 6, 6, 6, 6, 6, 6, 6, 6, 6, 6, 6, 6, 6, 6, 6, 6, 6, 6, 6, 6, 6, 6, 7, 7, 7, 7, 7, 7, 7, 7, 7, 7, 7, 7, 7, 7, 7, 7, 7, 7, 7, 7, 7, 7, 7, 7, 7, 7, 7, 7, 7, 7, 7, 7, 7, 7, 7, 7, 7, 7, 7, 7, 7, 7, 7, 7, 7, 7, 7, 7, 7, 7, 7, 7, 7, 7, 7, 7, 7, 7, 7, 7, 7, 7, 7, 7, 8, 8, 8, 8, 8, 8, 8, 8, 8, 8, 8, 8, 8, 8, 8, 8, 8, 8, 8, 8, 8, 8, 8, 8, 8, 8, 8, 8, 8, 8, 8, 8, 8, 8, 8, 8, 8, 8, 8, 8, 8, 8, 8, 8, 8, 8, 8, 8, 8, 8, 8, 8, 8, 8, 8, 8, 8, 8, 8, 8, 8, 8, 8, 8, 8, 8, 8, 8, 8, 8, 8, 8, 8, 8, 8, 8, 8, 8, 8, 8, 8, 8, 8, 8, 8, 8, 8, 8, 8, 8, 8, 8, 8, 8, 8, 8, 8, 8, 8, 8, 8, 8, 8, 8, 8, 8, 8, 8, 8, 8, 8, 8, 8, 8, 8, 8, 8, 8, 8, 8, 8, 8, 8, 8, 8, 8, 8, 8]⟩ : ByteArray) ((a0) % 256)))))) else (none)) else (none)))) = some r := h
 clear h
 by_cases c2 : a0 ≥ 65536
 ·rw [if_pos c2] at H
  have c2b0 : decide (65536 ≤ a0) = true := decide_eq_true c2
  clear c2
  by_cases c3 : (a0 / 65536) ≥ 256
  ·rw [if_pos c3] at H
   have c3b0 : decide (256 ≤ (a0 / 65536)) = true := decide_eq_true c3
   clear c3
   obtain ⟨ji4, hji4⟩ : ∃ j_ : Int, (((a0 / 65536) / 256) % 256) = j_ := ⟨_, rfl⟩
   replace H : (if 0 ≤ (ji4) then (if (ji4) < 256 then (some (wrap64 ((16 + 8) + (wrap64 (bt (⟨#[0, 1, 2, 2, 3, 3, 3, 3, 4, 4, 4, 4, 4, 4, 4, 4, 5, 5, 5, 5, 5, 5, 5, 5, 5, 5, 5, 5, 5, 5, 5, 5, 6, 6, 6, 6, 6, 6, 6, 6, 6, 6, 6, 6, 6, 6, 6, 6, 6, 6, 6, 6, 6, 6, 6, 6, 6, 6, 6, 6, 6, 6, 6, 6, 7, 7, 7, 7, 7, 7, 7, 7, 7, 7, 7, 7, 7, 7, 7, 7, 7, 7, 7, 7, 7, 7, 7, 7, 7, 7, 7, 7, 7, 7, 7, 7, 7, 7, 7, 7, 7, 7, 7, 7, 7, 7, 7, 7, 7, 7, 7, 7, 7, 7, 7, 7, 7, 7, 7, 7, 7, 7, 7, 7, 7, 7, 7, 7, 8, 8, 8, 8, 8, 8, 8, 8, 8, 8, 8, 8, 8, 8, 8, 8, 8, 8, 8, 8, 8, 8, 8, 8, 8, 8, 8, 8, 8, 8, 8, 8, 8, 8, 8, 8, 8, 8, 8, 8, 8, 8, 8, 8, 8, 8, 8, 8, 8, 8, 8, 8, 8, 8, 8, 8, 8, 8, 8, 8, 8, 8, 8, 8, 8, 8, 8, 8, 8, 8, 8, 8, 8, 8, 8, 8, 8, 8, 8, 8, 8, 8, 8, 8, 8, 8, 8, 8, 8, 8, 8, 8, 8, 8, 8, 8, 8, 8, 8, 8, 8, 8, 8, 8, 8, 8, 8, 8, 8, 8, 8, 8, 8, 8, 8, 8, 8, 8, 8, 8, 8, 8, 8, 8, 8, 8, 8, 8]⟩ : ByteArray) (ji4)))))) else (none)) else (none)) = some r := by first | (rw [hji4] at H; exact H) | (simp only [hji4] at H ⊢; exact H)
   by_cases c5 : 0 ≤ (ji4)
   ·rw [if_pos c5] at H
    have c5b0 : decide (0 ≤ (ji4)) = true := decide_eq_true c5
    clear c5
    by_cases c6 : (ji4) < 256
    ·rw [if_pos c6] at H
     have c6b0 : decide ((ji4) < 256) = true := decide_eq_true c6
     clear c6
     obtain rfl := Option.some.inj H
     have p7 : 0 ≤ ((ji4) : Int) := of_decide_eq_true (by first | (with_reducible assumption) | assumption)
     have q7 : (ji4) < (256 : Int) := of_decide_eq_true (by first | (with_reducible assumption) | assumption)
     have hx7 := bt_at (⟨#[0, 1, 2, 2, 3, 3, 3, 3, 4, 4, 4, 4, 4, 4, 4, 4, 5, 5, 5, 5, 5, 5, 5, 5, 5, 5, 5, 5, 5, 5, 5, 5, 6, 6, 6, 6, 6, 6, 6, 6, 6, 6, 6, 6, 6, 6, 6, 6, 6, 6, 6, 6, 6, 6, 6, 6, 6, 6, 6, 6, 6, 6, 6, 6, 7, 7, 7, 7, 7, 7, 7, 7, 7, 7, 7, 7, 7, 7, 7, 7, 7, 7, 7, 7, 7, 7, 7, 7, 7, 7, 7, 7, 7, 7, 7, 7, 7, 7, 7, 7, 7, 7, 7, 7, 7, 7, 7, 7, 7, 7, 7, 7, 7, 7, 7, 7, 7, 7, 7, 7, 7, 7, 7, 7, 7, 7, 7, 7, 8, 8, 8, 8, 8, 8, 8, 8, 8, 8, 8, 8, 8, 8, 8, 8, 8, 8, 8, 8, 8, 8, 8, 8, 8, 8, 8, 8, 8, 8, 8, 8, 8, 8, 8, 8, 8, 8, 8, 8, 8, 8, 8, 8, 8, 8, 8, 8, 8, 8, 8, 8, 8, 8, 8, 8, 8, 8, 8, 8, 8, 8, 8, 8, 8, 8, 8, 8, 8, 8, 8, 8, 8, 8, 8, 8, 8, 8, 8, 8, 8, 8, 8, 8, 8, 8, 8, 8, 8, 8, 8, 8, 8, 8, 8, 8, 8, 8, 8, 8, 8, 8, 8, 8, 8, 8, 8, 8, 8, 8, 8, 8, 8, 8, 8, 8, 8, 8, 8, 8, 8, 8, 8, 8, 8, 8, 8, 8]⟩ : ByteArray) (ji4)
     replace p7 := eq_true p7
     replace q7 := eq_true q7
     go_enter Try.func103, Try.ntmps103
     go_wp2
     go_ret
     exact ⟨by first | rfl | (simp; done) | (simp only [← hji4] <;> (first | rfl | simp)) | (simp [*]; done), by repeat (first | exact Drawn0.refl _ | apply Drawn0.step)⟩
    ·rw [if_neg c6] at H
     exact absurd H (by simp)
   ·rw [if_neg c5] at H
    exact absurd H (by simp)
  ·rw [if_neg c3] at H
   have c3b0 : decide (256 ≤ (a0 / 65536)) = false := decide_eq_false c3
   clear c3
   obtain ⟨ji8, hji8⟩ : ∃ j_ : Int, ((a0 / 65536) % 256) = j_ := ⟨_, rfl⟩
   replace H : (if 0 ≤ (ji8) then (if (ji8) < 256 then (some (wrap64 (16 + (wrap64 (bt (⟨#[0, 1, 2, 2, 3, 3, 3, 3, 4, 4, 4, 4, 4, 4, 4, 4, 5, 5, 5, 5, 5, 5, 5, 5, 5, 5, 5, 5, 5, 5, 5, 5, 6, 6, 6, 6, 6, 6, 6, 6, 6, 6, 6, 6, 6, 6, 6, 6, 6, 6, 6, 6, 6, 6, 6, 6, 6, 6, 6, 6, 6, 6, 6, 6, 7, 7, 7, 7, 7, 7, 7, 7, 7, 7, 7, 7, 7, 7, 7, 7, 7, 7, 7, 7, 7, 7, 7, 7, 7, 7, 7, 7, 7, 7, 7, 7, 7, 7, 7, 7, 7, 7, 7, 7, 7, 7, 7, 7, 7, 7, 7, 7, 7, 7, 7, 7, 7, 7, 7, 7, 7, 7, 7, 7, 7, 7, 7, 7, 8, 8, 8, 8, 8, 8, 8, 8, 8, 8, 8, 8, 8, 8, 8, 8, 8, 8, 8, 8, 8, 8, 8, 8, 8, 8, 8, 8, 8, 8, 8, 8, 8, 8, 8, 8, 8, 8, 8, 8, 8, 8, 8, 8, 8, 8, 8, 8, 8, 8, 8, 8, 8, 8, 8, 8, 8, 8, 8, 8, 8, 8, 8, 8, 8, 8, 8, 8, 8, 8, 8, 8, 8, 8, 8, 8, 8, 8, 8, 8, 8, 8, 8, 8, 8, 8, 8, 8, 8, 8, 8, 8, 8, 8, 8, 8, 8, 8, 8, 8, 8, 8, 8, 8, 8, 8, 8, 8, 8, 8, 8, 8, 8, 8, 8, 8, 8, 8, 8, 8, 8, 8, 8, 8, 8, 8, 8, 8]⟩ : ByteArray) (ji8)))))) else (none)) else (none)) = some r := by first | (rw [hji8] at H; exact H) | (simp only [hji8] at H ⊢; exact H)
   by_cases c9 : 0 ≤ (ji8)
   ·rw [if_pos c9] at H
    have c9b0 : decide (0 ≤ (ji8)) = true := decide_eq_true c9
    clear c9
    by_cases c10 : (ji8) < 256
    ·rw [if_pos c10] at H
     have c10b0 : decide ((ji8) < 256) = true := decide_eq_true c10
     clear c10
     obtain rfl := Option.some.inj H
     have p11 : 0 ≤ ((ji8) : Int) := of_decide_eq_true (by first | (with_reducible assumption) | assumption)
     have q11 : (ji8) < (256 : Int) := of_decide_eq_true (by first | (with_reducible assumption) | assumption)
     have hx11 := bt_at (⟨#[0, 1, 2, 2, 3, 3, 3, 3, 4, 4, 4, 4, 4, 4, 4, 4, 5, 5, 5, 5, 5, 5, 5, 5, 5, 5, 5, 5, 5, 5, 5, 5, 6, 6, 6, 6, 6, 6, 6, 6, 6, 6, 6, 6, 6, 6, 6, 6, 6, 6, 6, 6, 6, 6, 6, 6, 6, 6, 6, 6, 6, 6, 6, 6, 7, 7, 7, 7, 7, 7, 7, 7, 7, 7, 7, 7, 7, 7, 7, 7, 7, 7, 7, 7, 7, 7, 7, 7, 7, 7, 7, 7, 7, 7, 7, 7, 7, 7, 7, 7, 7, 7, 7, 7, 7, 7, 7, 7, 7, 7, 7, 7, 7, 7, 7, 7, 7, 7, 7, 7, 7, 7, 7, 7, 7, 7, 7, 7, 8, 8, 8, 8, 8, 8, 8, 8, 8, 8, 8, 8, 8, 8, 8, 8, 8, 8, 8, 8, 8, 8, 8, 8, 8, 8, 8, 8, 8, 8, 8, 8, 8, 8, 8, 8, 8, 8, 8, 8, 8, 8, 8, 8, 8, 8, 8, 8, 8, 8, 8, 8, 8, 8, 8, 8, 8, 8, 8, 8, 8, 8, 8, 8, 8, 8, 8, 8, 8, 8, 8, 8, 8, 8, 8, 8, 8, 8, 8, 8, 8, 8, 8, 8, 8, 8, 8, 8, 8, 8, 8, 8, 8, 8, 8, 8, 8, 8, 8, 8, 8, 8, 8, 8, 8, 8, 8, 8, 8, 8, 8, 8, 8, 8, 8, 8, 8, 8, 8, 8, 8, 8, 8, 8, 8, 8, 8, 8]⟩ : ByteArray) (ji8)
     replace p11 := eq_true p11
     replace q11 := eq_true q11
     go_enter Try.func103, Try.ntmps103
     go_wp2
     go_ret
     exact ⟨by first | rfl | (simp; done) | (simp only [← hji8] <;> (first | rfl | simp)) | (simp [*]; done), by repeat (first | exact Drawn0.refl _ | apply Drawn0.step)⟩
    ·rw [if_neg c10] at H
     exact absurd H (by simp)
   ·rw [if_neg c9] at H
    exact absurd H (by simp)
 ·rw [if_neg c2] at H
  have c2b0 : decide (65536 ≤ a0) = false := decide_eq_false c2
  clear c2
  by_cases c12 : a0 ≥ 256
  ·rw [if_pos c12] at H
   have c12b0 : decide (256 ≤ a0) = true := decide_eq_true c12
   clear c12
   obtain ⟨ji13, hji13⟩ : ∃ j_ : Int, ((a0 / 256) % 256) = j_ := ⟨_, rfl⟩
   replace H : (if 0 ≤ (ji13) then (if (ji13) < 256 then (some (wrap64 ((0 + 8) + (wrap64 (bt (⟨#[0, 1, 2, 2, 3, 3, 3, 3, 4, 4, 4, 4, 4, 4, 4, 4, 5, 5, 5, 5, 5, 5, 5, 5, 5, 5, 5, 5, 5, 5, 5, 5, 6, 6, 6, 6, 6, 6, 6, 6, 6, 6, 6, 6, 6, 6, 6, 6, 6, 6, 6, 6, 6, 6, 6, 6, 6, 6, 6, 6, 6, 6, 6, 6, 7, 7, 7, 7, 7, 7, 7, 7, 7, 7, 7, 7, 7, 7, 7, 7, 7, 7, 7, 7, 7, 7, 7, 7, 7, 7, 7, 7, 7, 7, 7, 7, 7, 7, 7, 7, 7, 7, 7, 7, 7, 7, 7, 7, 7, 7, 7, 7, 7, 7, 7, 7, 7, 7, 7, 7, 7, 7, 7, 7, 7, 7, 7, 7, 8, 8, 8, 8, 8, 8, 8, 8, 8, 8, 8, 8, 8, 8, 8, 8, 8, 8, 8, 8, 8, 8, 8, 8, 8, 8, 8, 8, 8, 8, 8, 8, 8, 8, 8, 8, 8, 8, 8, 8, 8, 8, 8, 8, 8, 8, 8, 8, 8, 8, 8, 8, 8, 8, 8, 8, 8, 8, 8, 8, 8, 8, 8, 8, 8, 8, 8, 8, 8, 8, 8, 8, 8, 8, 8, 8, 8, 8, 8, 8, 8, 8, 8, 8, 8, 8, 8, 8, 8, 8, 8, 8, 8, 8, 8, 8, 8, 8, 8, 8, 8, 8, 8, 8, 8, 8, 8, 8, 8, 8, 8, 8, 8, 8, 8, 8, 8, 8, 8, 8, 8, 8, 8, 8, 8, 8, 8, 8]⟩ : ByteArray) (ji13)))))) else (none)) else (none)) = some r := by first | (rw [hji13] at H; exact H) | (simp only [hji13] at H ⊢; exact H)
   by_cases c14 : 0 ≤ (ji13)
   ·rw [if_pos c14] at H
    have c14b0 : decide (0 ≤ (ji13)) = true := decide_eq_true c14
    clear c14
    by_cases c15 : (ji13) < 256
    ·rw [if_pos c15] at H
     have c15b0 : decide ((ji13) < 256) = true := decide_eq_true c15
     clear c15
     obtain rfl := Option.some.inj H
     have p16 : 0 ≤ ((ji13) : Int) := of_decide_eq_true (by first | (with_reducible assumption) | assumption)
     have q16 : (ji13) < (256 : Int) := of_decide_eq_true (by first | (with_reducible assumption) | assumption)
     have hx16 := bt_at (⟨#[0, 1, 2, 2, 3, 3, 3, 3, 4, 4, 4, 4, 4, 4, 4, 4, 5, 5, 5, 5, 5, 5, 5, 5, 5, 5, 5, 5, 5, 5, 5, 5, 6, 6, 6, 6, 6, 6, 6, 6, 6, 6, 6, 6, 6, 6, 6, 6, 6, 6, 6, 6, 6, 6, 6, 6, 6, 6, 6, 6, 6, 6, 6, 6, 7, 7, 7, 7, 7, 7, 7, 7, 7, 7, 7, 7, 7, 7, 7, 7, 7, 7, 7, 7, 7, 7, 7, 7, 7, 7, 7, 7, 7, 7, 7, 7, 7, 7, 7, 7, 7, 7, 7, 7, 7, 7, 7, 7, 7, 7, 7, 7, 7, 7, 7, 7, 7, 7, 7, 7, 7, 7, 7, 7, 7, 7, 7, 7, 8, 8, 8, 8, 8, 8, 8, 8, 8, 8, 8, 8, 8, 8, 8, 8, 8, 8, 8, 8, 8, 8, 8, 8, 8, 8, 8, 8, 8, 8, 8, 8, 8, 8, 8, 8, 8, 8, 8, 8, 8, 8, 8, 8, 8, 8, 8, 8, 8, 8, 8, 8, 8, 8, 8, 8, 8, 8, 8, 8, 8, 8, 8, 8, 8, 8, 8, 8, 8, 8, 8, 8, 8, 8, 8, 8, 8, 8, 8, 8, 8, 8, 8, 8, 8, 8, 8, 8, 8, 8, 8, 8, 8, 8, 8, 8, 8, 8, 8, 8, 8, 8, 8, 8, 8, 8, 8, 8, 8, 8, 8, 8, 8, 8, 8, 8, 8, 8, 8, 8, 8, 8, 8, 8, 8, 8, 8, 8]⟩ : ByteArray) (ji13)
     replace p16 := eq_true p16
     replace q16 := eq_true q16
     go_enter Try.func103, Try.ntmps103
     go_wp2
     go_ret
     exact ⟨by first | rfl | (simp; done) | (simp only [← hji13] <;> (first | rfl | simp)) | (simp [*]; done), by repeat (first | exact Drawn0.refl _ | apply Drawn0.step)⟩
    ·rw [if_neg c15] at H
     exact absurd H (by simp)
   ·rw [if_neg c14] at H
    exact absurd H (by simp)
  ·rw [if_neg c12] at H
   have c12b0 : decide (256 ≤ a0) = false := decide_eq_false c12
   clear c12
   obtain ⟨ji17, hji17⟩ : ∃ j_ : Int, ((a0) % 256) = j_ := ⟨_, rfl⟩
   replace H : (if 0 ≤ (ji17) then (if (ji17) < 256 then (some (wrap64 (0 + (wrap64 (bt (⟨#[0, 1, 2, 2, 3, 3, 3, 3, 4, 4, 4, 4, 4, 4, 4, 4, 5, 5, 5, 5, 5, 5, 5, 5, 5, 5, 5, 5, 5, 5, 5, 5, 6, 6, 6, 6, 6, 6, 6, 6, 6, 6, 6, 6, 6, 6, 6, 6, 6, 6, 6, 6, 6, 6, 6, 6, 6, 6, 6, 6, 6, 6, 6, 6, 7, 7, 7, 7, 7, 7, 7, 7, 7, 7, 7, 7, 7, 7, 7, 7, 7, 7, 7, 7, 7, 7, 7, 7, 7, 7, 7, 7, 7, 7, 7, 7, 7, 7, 7, 7, 7, 7, 7, 7, 7, 7, 7, 7, 7, 7, 7, 7, 7, 7, 7, 7, 7, 7, 7, 7, 7, 7, 7, 7, 7, 7, 7, 7, 8, 8, 8, 8, 8, 8, 8, 8, 8, 8, 8, 8, 8, 8, 8, 8, 8, 8, 8, 8, 8, 8, 8, 8, 8, 8, 8, 8, 8, 8, 8, 8, 8, 8, 8, 8, 8, 8, 8, 8, 8, 8, 8, 8, 8, 8, 8, 8, 8, 8, 8, 8, 8, 8, 8, 8, 8, 8, 8, 8, 8, 8, 8, 8, 8, 8, 8, 8, 8, 8, 8, 8, 8, 8, 8, 8, 8, 8, 8, 8, 8, 8, 8, 8, 8, 8, 8, 8, 8, 8, 8, 8, 8, 8, 8, 8, 8, 8, 8, 8, 8, 8, 8, 8, 8, 8, 8, 8, 8, 8, 8, 8, 8, 8, 8, 8, 8, 8, 8, 8, 8, 8, 8, 8, 8, 8, 8, 8]⟩ : ByteArray) (ji17)))))) else (none)) else (none)) = some r := by first | (rw [hji17] at H; exact H) | (simp only [hji17] at H ⊢; exact H)
   by_cases c18 : 0 ≤ (ji17)
   ·rw [if_pos c18] at H
    have c18b0 : decide (0 ≤ (ji17)) = true := decide_eq_true c18
    clear c18
    by_cases c19 : (ji17) < 256
    ·rw [if_pos c19] at H
     have c19b0 : decide ((ji17) < 256) = true := decide_eq_true c19
     clear c19
     obtain rfl := Option.some.inj H
     have p20 : 0 ≤ ((ji17) : Int) := of_decide_eq_true (by first | (with_reducible assumption) | assumption)
     have q20 : (ji17) < (256 : Int) := of_decide_eq_true (by first | (with_reducible assumption) | assumption)
     have hx20 := bt_at (⟨#[0, 1, 2, 2, 3, 3, 3, 3, 4, 4, 4, 4, 4, 4, 4, 4, 5, 5, 5, 5, 5, 5, 5, 5, 5, 5, 5, 5, 5, 5, 5, 5, 6, 6, 6, 6, 6, 6, 6, 6, 6, 6, 6, 6, 6, 6, 6, 6, 6, 6, 6, 6, 6, 6, 6, 6, 6, 6, 6, 6, 6, 6, 6, 6, 7, 7, 7, 7, 7, 7, 7, 7, 7, 7, 7, 7, 7, 7, 7, 7, 7, 7, 7, 7, 7, 7, 7, 7, 7, 7, 7, 7, 7, 7, 7, 7, 7, 7, 7, 7, 7, 7, 7, 7, 7, 7, 7, 7, 7, 7, 7, 7, 7, 7, 7, 7, 7, 7, 7, 7, 7, 7, 7, 7, 7, 7, 7, 7, 8, 8, 8, 8, 8, 8, 8, 8, 8, 8, 8, 8, 8, 8, 8, 8, 8, 8, 8, 8, 8, 8, 8, 8, 8, 8, 8, 8, 8, 8, 8, 8, 8, 8, 8, 8, 8, 8, 8, 8, 8, 8, 8, 8, 8, 8, 8, 8, 8, 8, 8, 8, 8, 8, 8, 8, 8, 8, 8, 8, 8, 8, 8, 8, 8, 8, 8, 8, 8, 8, 8, 8, 8, 8, 8, 8, 8, 8, 8, 8, 8, 8, 8, 8, 8, 8, 8, 8, 8, 8, 8, 8, 8, 8, 8, 8, 8, 8, 8, 8, 8, 8, 8, 8, 8, 8, 8, 8, 8, 8, 8, 8, 8, 8, 8, 8, 8, 8, 8, 8, 8, 8, 8, 8, 8, 8, 8, 8]⟩ : ByteArray) (ji17)
     replace p20 := eq_true p20
     replace q20 := eq_true q20
     go_enter Try.func103, Try.ntmps103
     go_wp2
     go_ret
     exact ⟨by first | rfl | (simp; done) | (simp only [← hji17] <;> (first | rfl | simp)) | (simp [*]; done), by repeat (first | exact Drawn0.refl _ | apply Drawn0.step)⟩
    ·rw [if_neg c19] at H
     exact absurd H (by simp)
   ·rw [if_neg c18] at H
    exact absurd H (by simp)

theorem bits_Len32.table : ∀ i : Nat, i < 256 → i < 2 ^ (bt (⟨#[0, 1, 2, 2, 3, 3, 3, 3, 4, 4, 4, 4, 4, 4, 4, 4, 5, 5, 5, 5, 5, 5, 5, 5, 5, 5, 5, 5, 5, 5, 5, 5, 6, 6, 6, 6, 6, 6, 6, 6, 6, 6, 6, 6, 6, 6, 6, 6, 6, 6, 6, 6, 6, 6, 6, 6, 6, 6, 6, 6, 6, 6, 6, 6, 7, 7, 7, 7, 7, 7, 7, 7, 7, 7, 7, 7, 7, 7, 7, 7, 7, 7, 7, 7, 7, 7, 7, 7, 7, 7, 7, 7, 7, 7, 7, 7, 7, 7, 7, 7, 7, 7, 7, 7, 7, 7, 7, 7, 7, 7, 7, 7, 7, 7, 7, 7, 7, 7, 7, 7, 7, 7, 7, 7, 7, 7, 7, 7, 8, 8, 8, 8, 8, 8, 8, 8, 8, 8, 8, 8, 8, 8, 8, 8, 8, 8, 8, 8, 8, 8, 8, 8, 8, 8, 8, 8, 8, 8, 8, 8, 8, 8, 8, 8, 8, 8, 8, 8, 8, 8, 8, 8, 8, 8, 8, 8, 8, 8, 8, 8, 8, 8, 8, 8, 8, 8, 8, 8, 8, 8, 8, 8, 8, 8, 8, 8, 8, 8, 8, 8, 8, 8, 8, 8, 8, 8, 8, 8, 8, 8, 8, 8, 8, 8, 8, 8, 8, 8, 8, 8, 8, 8, 8, 8, 8, 8, 8, 8, 8, 8, 8, 8, 8, 8, 8, 8, 8, 8, 8, 8, 8, 8, 8, 8, 8, 8, 8, 8, 8, 8, 8, 8, 8, 8, 8, 8]⟩ : ByteArray) (i : Int)).toNat ∧ (i ≠ 0 → 1 ≤ (bt (⟨#[0, 1, 2, 2, 3, 3, 3, 3, 4, 4, 4, 4, 4, 4, 4, 4, 5, 5, 5, 5, 5, 5, 5, 5, 5, 5, 5, 5, 5, 5, 5, 5, 6, 6, 6, 6, 6, 6, 6, 6, 6, 6, 6, 6, 6, 6, 6, 6, 6, 6, 6, 6, 6, 6, 6, 6, 6, 6, 6, 6, 6, 6, 6, 6, 7, 7, 7, 7, 7, 7, 7, 7, 7, 7, 7, 7, 7, 7, 7, 7, 7, 7, 7, 7, 7, 7, 7, 7, 7, 7, 7, 7, 7, 7, 7, 7, 7, 7, 7, 7, 7, 7, 7, 7, 7, 7, 7, 7, 7, 7, 7, 7, 7, 7, 7, 7, 7, 7, 7, 7, 7, 7, 7, 7, 7, 7, 7, 7, 8, 8, 8, 8, 8, 8, 8, 8, 8, 8, 8, 8, 8, 8, 8, 8, 8, 8, 8, 8, 8, 8, 8, 8, 8, 8, 8, 8, 8, 8, 8, 8, 8, 8, 8, 8, 8, 8, 8, 8, 8, 8, 8, 8, 8, 8, 8, 8, 8, 8, 8, 8, 8, 8, 8, 8, 8, 8, 8, 8, 8, 8, 8, 8, 8, 8, 8, 8, 8, 8, 8, 8, 8, 8, 8, 8, 8, 8, 8, 8, 8, 8, 8, 8, 8, 8, 8, 8, 8, 8, 8, 8, 8, 8, 8, 8, 8, 8, 8, 8, 8, 8, 8, 8, 8, 8, 8, 8, 8, 8, 8, 8, 8, 8, 8, 8, 8, 8, 8, 8, 8, 8, 8, 8, 8, 8, 8, 8]⟩ : ByteArray) (i : Int)).toNat ∧ 2 ^ ((bt (⟨#[0, 1, 2, 2, 3, 3, 3, 3, 4, 4, 4, 4, 4, 4, 4, 4, 5, 5, 5, 5, 5, 5, 5, 5, 5, 5, 5, 5, 5, 5, 5, 5, 6, 6, 6, 6, 6, 6, 6, 6, 6, 6, 6, 6, 6, 6, 6, 6, 6, 6, 6, 6, 6, 6, 6, 6, 6, 6, 6, 6, 6, 6, 6, 6, 7, 7, 7, 7, 7, 7, 7, 7, 7, 7, 7, 7, 7, 7, 7, 7, 7, 7, 7, 7, 7, 7, 7, 7, 7, 7, 7, 7, 7, 7, 7, 7, 7, 7, 7, 7, 7, 7, 7, 7, 7, 7, 7, 7, 7, 7, 7, 7, 7, 7, 7, 7, 7, 7, 7, 7, 7, 7, 7, 7, 7, 7, 7, 7, 8, 8, 8, 8, 8, 8, 8, 8, 8, 8, 8, 8, 8, 8, 8, 8, 8, 8, 8, 8, 8, 8, 8, 8, 8, 8, 8, 8, 8, 8, 8, 8, 8, 8, 8, 8, 8, 8, 8, 8, 8, 8, 8, 8, 8, 8, 8, 8, 8, 8, 8, 8, 8, 8, 8, 8, 8, 8, 8, 8, 8, 8, 8, 8, 8, 8, 8, 8, 8, 8, 8, 8, 8, 8, 8, 8, 8, 8, 8, 8, 8, 8, 8, 8, 8, 8, 8, 8, 8, 8, 8, 8, 8, 8, 8, 8, 8, 8, 8, 8, 8, 8, 8, 8, 8, 8, 8, 8, 8, 8, 8, 8, 8, 8, 8, 8, 8, 8, 8, 8, 8, 8, 8, 8, 8, 8, 8, 8]⟩ : ByteArray) (i : Int)).toNat - 1) ≤ i) := by decide +kernel
theorem bits_Len32.zero : bt (⟨#[0, 1, 2, 2, 3, 3, 3, 3, 4, 4, 4, 4, 4, 4, 4, 4, 5, 5, 5, 5, 5, 5, 5, 5, 5, 5, 5, 5, 5, 5, 5, 5, 6, 6, 6, 6, 6, 6, 6, 6, 6, 6, 6, 6, 6, 6, 6, 6, 6, 6, 6, 6, 6, 6, 6, 6, 6, 6, 6, 6, 6, 6, 6, 6, 7, 7, 7, 7, 7, 7, 7, 7, 7, 7, 7, 7, 7, 7, 7, 7, 7, 7, 7, 7, 7, 7, 7, 7, 7, 7, 7, 7, 7, 7, 7, 7, 7, 7, 7, 7, 7, 7, 7, 7, 7, 7, 7, 7, 7, 7, 7, 7, 7, 7, 7, 7, 7, 7, 7, 7, 7, 7, 7, 7, 7, 7, 7, 7, 8, 8, 8, 8, 8, 8, 8, 8, 8, 8, 8, 8, 8, 8, 8, 8, 8, 8, 8, 8, 8, 8, 8, 8, 8, 8, 8, 8, 8, 8, 8, 8, 8, 8, 8, 8, 8, 8, 8, 8, 8, 8, 8, 8, 8, 8, 8, 8, 8, 8, 8, 8, 8, 8, 8, 8, 8, 8, 8, 8, 8, 8, 8, 8, 8, 8, 8, 8, 8, 8, 8, 8, 8, 8, 8, 8, 8, 8, 8, 8, 8, 8, 8, 8, 8, 8, 8, 8, 8, 8, 8, 8, 8, 8, 8, 8, 8, 8, 8, 8, 8, 8, 8, 8, 8, 8, 8, 8, 8, 8, 8, 8, 8, 8, 8, 8, 8, 8, 8, 8, 8, 8, 8, 8, 8, 8, 8, 8]⟩ : ByteArray) ((0 : Nat) : Int) = ((0 : Nat) : Int) := by decide +kernel
theorem bits_Len32.at_ {i : Nat} (h : i < 256) : bt (⟨#[0, 1, 2, 2, 3, 3, 3, 3, 4, 4, 4, 4, 4, 4, 4, 4, 5, 5, 5, 5, 5, 5, 5, 5, 5, 5, 5, 5, 5, 5, 5, 5, 6, 6, 6, 6, 6, 6, 6, 6, 6, 6, 6, 6, 6, 6, 6, 6, 6, 6, 6, 6, 6, 6, 6, 6, 6, 6, 6, 6, 6, 6, 6, 6, 7, 7, 7, 7, 7, 7, 7, 7, 7, 7, 7, 7, 7, 7, 7, 7, 7, 7, 7, 7, 7, 7, 7, 7, 7, 7, 7, 7, 7, 7, 7, 7, 7, 7, 7, 7, 7, 7, 7, 7, 7, 7, 7, 7, 7, 7, 7, 7, 7, 7, 7, 7, 7, 7, 7, 7, 7, 7, 7, 7, 7, 7, 7, 7, 8, 8, 8, 8, 8, 8, 8, 8, 8, 8, 8, 8, 8, 8, 8, 8, 8, 8, 8, 8, 8, 8, 8, 8, 8, 8, 8, 8, 8, 8, 8, 8, 8, 8, 8, 8, 8, 8, 8, 8, 8, 8, 8, 8, 8, 8, 8, 8, 8, 8, 8, 8, 8, 8, 8, 8, 8, 8, 8, 8, 8, 8, 8, 8, 8, 8, 8, 8, 8, 8, 8, 8, 8, 8, 8, 8, 8, 8, 8, 8, 8, 8, 8, 8, 8, 8, 8, 8, 8, 8, 8, 8, 8, 8, 8, 8, 8, 8, 8, 8, 8, 8, 8, 8, 8, 8, 8, 8, 8, 8, 8, 8, 8, 8, 8, 8, 8, 8, 8, 8, 8, 8, 8, 8, 8, 8, 8, 8]⟩ : ByteArray) (i : Int) = ((Num.blen i : Nat) : Int) := by
 obtain ⟨h1, h2⟩ := bits_Len32.table i h
 have h3 := (bt_range (⟨#[0, 1, 2, 2, 3, 3, 3, 3, 4, 4, 4, 4, 4, 4, 4, 4, 5, 5, 5, 5, 5, 5, 5, 5, 5, 5, 5, 5, 5, 5, 5, 5, 6, 6, 6, 6, 6, 6, 6, 6, 6, 6, 6, 6, 6, 6, 6, 6, 6, 6, 6, 6, 6, 6, 6, 6, 6, 6, 6, 6, 6, 6, 6, 6, 7, 7, 7, 7, 7, 7, 7, 7, 7, 7, 7, 7, 7, 7, 7, 7, 7, 7, 7, 7, 7, 7, 7, 7, 7, 7, 7, 7, 7, 7, 7, 7, 7, 7, 7, 7, 7, 7, 7, 7, 7, 7, 7, 7, 7, 7, 7, 7, 7, 7, 7, 7, 7, 7, 7, 7, 7, 7, 7, 7, 7, 7, 7, 7, 8, 8, 8, 8, 8, 8, 8, 8, 8, 8, 8, 8, 8, 8, 8, 8, 8, 8, 8, 8, 8, 8, 8, 8, 8, 8, 8, 8, 8, 8, 8, 8, 8, 8, 8, 8, 8, 8, 8, 8, 8, 8, 8, 8, 8, 8, 8, 8, 8, 8, 8, 8, 8, 8, 8, 8, 8, 8, 8, 8, 8, 8, 8, 8, 8, 8, 8, 8, 8, 8, 8, 8, 8, 8, 8, 8, 8, 8, 8, 8, 8, 8, 8, 8, 8, 8, 8, 8, 8, 8, 8, 8, 8, 8, 8, 8, 8, 8, 8, 8, 8, 8, 8, 8, 8, 8, 8, 8, 8, 8, 8, 8, 8, 8, 8, 8, 8, 8, 8, 8, 8, 8, 8, 8, 8, 8, 8, 8]⟩ : ByteArray) (i : Int)).1
 obtain ⟨v, hv'⟩ : ∃ v, v = bt (⟨#[0, 1, 2, 2, 3, 3, 3, 3, 4, 4, 4, 4, 4, 4, 4, 4, 5, 5, 5, 5, 5, 5, 5, 5, 5, 5, 5, 5, 5, 5, 5, 5, 6, 6, 6, 6, 6, 6, 6, 6, 6, 6, 6, 6, 6, 6, 6, 6, 6, 6, 6, 6, 6, 6, 6, 6, 6, 6, 6, 6, 6, 6, 6, 6, 7, 7, 7, 7, 7, 7, 7, 7, 7, 7, 7, 7, 7, 7, 7, 7, 7, 7, 7, 7, 7, 7, 7, 7, 7, 7, 7, 7, 7, 7, 7, 7, 7, 7, 7, 7, 7, 7, 7, 7, 7, 7, 7, 7, 7, 7, 7, 7, 7, 7, 7, 7, 7, 7, 7, 7, 7, 7, 7, 7, 7, 7, 7, 7, 8, 8, 8, 8, 8, 8, 8, 8, 8, 8, 8, 8, 8, 8, 8, 8, 8, 8, 8, 8, 8, 8, 8, 8, 8, 8, 8, 8, 8, 8, 8, 8, 8, 8, 8, 8, 8, 8, 8, 8, 8, 8, 8, 8, 8, 8, 8, 8, 8, 8, 8, 8, 8, 8, 8, 8, 8, 8, 8, 8, 8, 8, 8, 8, 8, 8, 8, 8, 8, 8, 8, 8, 8, 8, 8, 8, 8, 8, 8, 8, 8, 8, 8, 8, 8, 8, 8, 8, 8, 8, 8, 8, 8, 8, 8, 8, 8, 8, 8, 8, 8, 8, 8, 8, 8, 8, 8, 8, 8, 8, 8, 8, 8, 8, 8, 8, 8, 8, 8, 8, 8, 8, 8, 8, 8, 8, 8, 8]⟩ : ByteArray) (i : Int) := ⟨_, rfl⟩
 rw [← hv'] at h1 h2 h3 ⊢
 obtain ⟨n, rfl⟩ : ∃ n : Nat, v = (n : Int) := ⟨v.toNat, by omega⟩
 rw [Int.toNat_natCast] at h1 h2
 by_cases h0 : i = 0
 ·subst h0
  rw [Num.blen_zero]
  rw [hv']
  exact bits_Len32.zero
 ·obtain ⟨h4, h5⟩ := h2 h0
  obtain ⟨m, rfl⟩ : ∃ m, n = m + 1 := ⟨n - 1, by omega⟩
  rw [Nat.add_sub_cancel] at h5
  rw [Num.blen_eq h5 h1]
theorem bits_Len32.blen_div (k : Nat) : ∀ n : Nat, 2 ^ k ≤ n → Num.blen n = Num.blen (n / 2 ^ k) + k := by
 induction k with
 | zero => intro n _; rw [Nat.pow_zero, Nat.div_one]; rfl
 | succ k ih =>
  intro n h
  rw [Nat.pow_succ] at h
  have hp : 0 < 2 ^ k := Nat.pow_pos (by omega)
  rw [Num.blen_pos (by omega), ih (n / 2) (by omega), Nat.div_div_eq_div_mul, Nat.pow_succ, Nat.mul_comm 2]
  omega
theorem bits_Len32.sem {n : Nat} (h : n < 4294967296) : bits_Len32.f (n : Int) = some ((Num.blen n : Nat) : Int) := by
 have le8 : ∀ i : Nat, i < 256 → Num.blen i ≤ 8 := by
  intro i hi
  rcases Nat.lt_or_ge 8 (Num.blen i) with h1 | h1
  ·have h0 : i ≠ 0 := by
    intro e
    rw [e, Num.blen_zero] at h1
    omega
   have h2 := Num.blen_le h0
   have h3 : 2 ^ 8 ≤ 2 ^ (Num.blen i - 1) := Nat.pow_le_pow_right (by omega) (by omega)
   omega
  ·exact h1
 unfold bits_Len32.f
 by_cases h1 : 65536 ≤ n
 ·rw [if_pos (by omega)]
  by_cases h2 : 256 ≤ n / 65536
  ·have e : ((n : Int) / 65536 / 256) % 256 = ((n / 2 ^ 24 : Nat) : Int) := by omega
   have hi : n / 2 ^ 24 < 256 := by omega
   have := le8 _ hi
   rw [if_pos (by omega), e, if_pos (by omega), if_pos (by omega), bits_Len32.at_ hi, Dec.w64n _ (by omega), Dec.w64 (by omega) (by omega), bits_Len32.blen_div 24 n (by omega)]
   congr 1
   omega
  ·have e : ((n : Int) / 65536) % 256 = ((n / 2 ^ 16 : Nat) : Int) := by omega
   have hi : n / 2 ^ 16 < 256 := by omega
   have := le8 _ hi
   rw [if_neg (by omega), e, if_pos (by omega), if_pos (by omega), bits_Len32.at_ hi, Dec.w64n _ (by omega), Dec.w64 (by omega) (by omega), bits_Len32.blen_div 16 n (by omega)]
   congr 1
   omega
 ·rw [if_neg (by omega)]
  by_cases h2 : 256 ≤ n
  ·have e : ((n : Int) / 256) % 256 = ((n / 2 ^ 8 : Nat) : Int) := by omega
   have hi : n / 2 ^ 8 < 256 := by omega
   have := le8 _ hi
   rw [if_pos (by omega), e, if_pos (by omega), if_pos (by omega), bits_Len32.at_ hi, Dec.w64n _ (by omega), Dec.w64 (by omega) (by omega), bits_Len32.blen_div 8 n (by omega)]
   congr 1
   omega
  ·have e : (n : Int) % 256 = (n : Int) := by omega
   have := le8 n (by omega)
   rw [if_neg (by omega), e, if_pos (by omega), if_pos (by omega), bits_Len32.at_ (by omega), Dec.w64n _ (by omega), Dec.w64 (by omega) (by omega)]
   congr 1
   omega
def nat_Bits.f (k : Nat) (l0 : List Int) : Option (Int) := (nat_trim.f k l0).bind fun t140 => (if (t140.length : Int) = 0 then (some 0) else (if 0 ≤ (wrap64 ((t140.length : Int) - 1)) then (if (wrap64 ((t140.length : Int) - 1)) < (t140.length : Int) then ((bits_Len32.f (rd t140 (wrap64 ((t140.length : Int) - 1)))).bind fun t144 => (some (wrap64 ((wrap64 (32 * (wrap64 ((t140.length : Int) - 1)))) + t144)))) else (none)) else (none)))
set_option maxHeartbeats 8000000 in
set_option maxRecDepth 100000 in
theorem nat_Bits.calls (k : Nat) (A0 : Option Addr) (c0 : Nat) (l0 : List Int) (r : Int) (w : World) (hr0 : Kd.C (Kd.int .u32) w A0 l0.length l0) (hc0 : l0.length ≤ c0) (h : nat_Bits.f k l0 = some r) :
  Calls Try.prog 91 #[.slice A0 l0.length c0] w fun e w' => e = .returned (.int .i64 r) ∧ Below w.heap.size w w' := by
 have HR0 := Aside0.mk hr0
 have HC0 := Aside0.mk hc0
 clear hr0 hc0
 have HB := Aside0.mk (Below.refl w.heap.size w)
 have H : ((nat_trim.f k l0).bind fun t140 => (if (t140.length : Int) = 0 then (some 0) else (if 0 ≤ (wrap64 ((t140.length : Int) - 1)) then (if (wrap64 ((t140.length : Int) - 1)) < (t140.length : Int) then ((bits_Len32.f (rd t140 (wrap64 ((t140.length : Int) - 1)))).bind fun t144 => (some (wrap64 ((wrap64 (32 * (wrap64 ((t140.length : Int) - 1)))) + t144)))) else (none)) else (none)))) = some r := h
 clear h
 replace H := Option.bind_eq_some_iff.mp H
 obtain ⟨t140, A20, H⟩ := H
 try dsimp only at H
 have A2 := Aside0.mk A20
 clear A20
 by_cases c3 : (t140.length : Int) = 0
 ·rw [if_pos c3] at H
  have c3b0 : ((t140.length : Int) == 0) = true := beq_iff_eq.mpr c3
  have c3b1 : ((t140.length : Int) != 0) = false := bne_eq_false_iff_eq.mpr c3
  clear c3
  obtain rfl := Option.some.inj H
  go_enter Try.func91, Try.ntmps91
  go_wp2_with (first | ((with_reducible refine gate_callee (f := 71) rfl ?_); refine Short.goesS_ (some 4) Try.func71 #[.slice A0 l0.length c0] ?_; (with_reducible refine (nat_trim.calls k _ _ l0 t140 _ HR0.out HC0.out A2.out).mono ?_); rintro e w4 ⟨v141, rfl, ho0, hb⟩; refine ⟨_, rfl, ?_⟩; have HO142 := Aside0.mk (Kd.R_lower ho0 (below_size (by repeat (first | (with_reducible first | exact HB.out | apply below_alloc | apply pw_below_drewN | apply below_drew1) | exact HB.out)))); replace HB := Aside0.mk (below_step (by repeat (first | (with_reducible first | exact HB.out | apply below_alloc | apply pw_below_drewN | apply below_drew1) | exact HB.out)) hb); (try clear hb); (try clear ho0); obtain ⟨Ao5, co5, eo5⟩ := Kd.R_slice HO142.out; subst eo5))
  go_ret
  exact ⟨by rfl, by repeat (first | (with_reducible first | exact HB.out | apply below_alloc | apply pw_below_drewN | apply below_drew1) | exact HB.out)⟩
 ·rw [if_neg c3] at H
  have c3b0 : ((t140.length : Int) == 0) = false := beq_eq_false_iff_ne.mpr c3
  have c3b1 : ((t140.length : Int) != 0) = true := bne_iff_ne.mpr c3
  have c3b2 : ¬ (t140 = []) := fun h_ => c3 (by rw [h_]; rfl)
  obtain ⟨ji6, hji6⟩ : ∃ j_ : Int, (wrap64 ((t140.length : Int) - 1)) = j_ := ⟨_, rfl⟩
  replace H : (if 0 ≤ (ji6) then (if (ji6) < (t140.length : Int) then ((bits_Len32.f (rd t140 (ji6))).bind fun t144 => (some (wrap64 ((wrap64 (32 * (ji6))) + t144)))) else (none)) else (none)) = some r := by first | (rw [hji6] at H; exact H) | (simp only [hji6] at H ⊢; exact H)
  (try rw [hji6] at A2)
  have hji6w : (IntKind.i64.wrap ((t140.length : Int) - 1)) = ji6 := (i64_w _).trans hji6
  by_cases c7 : 0 ≤ (ji6)
  ·rw [if_pos c7] at H
   have c7b0 : decide (0 ≤ (ji6)) = true := decide_eq_true c7
   clear c7
   by_cases c8 : (ji6) < (t140.length : Int)
   ·rw [if_pos c8] at H
    have c8b0 : decide ((ji6) < (t140.length : Int)) = true := decide_eq_true c8
    clear c8
    replace H := Option.bind_eq_some_iff.mp H
    obtain ⟨t144, A90, H⟩ := H
    replace H : (some (wrap64 ((wrap64 (32 * (ji6))) + t144))) = some r := H
    have A9 := Aside0.mk A90
    clear A90
    obtain rfl := Option.some.inj H
    go_enter Try.func91, Try.ntmps91
    go_wp2_with (first | ((with_reducible refine gate_callee (f := 71) rfl ?_); refine Short.goesS_ (some 4) Try.func71 #[.slice A0 l0.length c0] ?_; (with_reducible refine (nat_trim.calls k _ _ l0 t140 _ HR0.out HC0.out A2.out).mono ?_); rintro e w10 ⟨v141, rfl, ho0, hb⟩; refine ⟨_, rfl, ?_⟩; have HO142 := Aside0.mk (Kd.R_lower ho0 (below_size (by repeat (first | (with_reducible first | exact HB.out | apply below_alloc | apply pw_below_drewN | apply below_drew1) | exact HB.out)))); replace HB := Aside0.mk (below_step (by repeat (first | (with_reducible first | exact HB.out | apply below_alloc | apply pw_below_drewN | apply below_drew1) | exact HB.out)) hb); (try clear hb); (try clear ho0); obtain ⟨Ao11, co11, eo11⟩ := Kd.R_slice HO142.out; subst eo11; have p143 : 0 ≤ ((ji6) : Int) := of_decide_eq_true (by first | (with_reducible assumption) | assumption); have q143 : (ji6) < (t140.length : Int) := of_decide_eq_true (by first | (with_reducible assumption) | assumption); obtain ⟨ad143, e143, hx143_0⟩ := Kd.at_int (Kd.R_reads' HO142.out).2.2 (ji6) p143 q143; cases e143; replace p143 := eq_true p143; replace q143 := eq_true q143) | ((with_reducible refine gate_callee (f := 103) rfl ?_); refine goesL_ (some 18) rfl rfl Try.func103 (by kernel_rfl) rfl #[.int .u32 (rd t140 (ji6))] rfl (by (try simp only [List.map_toArray, List.map_cons, List.map_nil]); first | done | (simp only [hji6]; rfl) | rfl) ?_; (with_reducible refine (bits_Len32.calls (rd t140 (ji6)) t144 _ A9.out).mono ?_); rintro e w' ⟨rfl, ⟨nd, rfl⟩⟩; refine ⟨_, rfl, ?_⟩))
    go_ret
    exact ⟨by first | rfl | (simp [errW_none, errW_some] <;> rfl) | (simp only [← hji6]; first | rfl | (simp [errW_none, errW_some] <;> rfl)) | (simp [*, errW_none, errW_some] <;> rfl), by repeat (first | (with_reducible first | exact HB.out | apply below_alloc | apply pw_below_drewN | apply below_drew1) | exact HB.out)⟩
   ·rw [if_neg c8] at H
    exact absurd H (by simp)
  ·rw [if_neg c7] at H
   exact absurd H (by simp)

theorem nat_Bits.ev {l : List Int} (hW : Num.Ws l) (hl : l.length < 10000000) : Ev (fun k => nat_Bits.f k l) ((Num.blen (Num.nv l) : Nat) : Int) := by
 obtain ⟨x, hx⟩ : ∃ x, x = Num.nv l := ⟨_, rfl⟩
 have ht := nat_trim.ev hW (by omega)
 rw [← hx] at ht ⊢
 have hlx : (Num.nd x).length ≤ l.length := by rw [hx]; exact Num.nd_length_le (Num.nv_lt hW)
 unfold nat_Bits.f
 refine Ev.bind ht ?_
 by_cases h0 : x = 0
 ·subst h0
  rw [Num.nd_zero, Num.blen_zero]
  exact Dec.yes rfl (Ev.now _)
 ·have h2 : 0 < (Num.nd x).length := by
   rcases Nat.eq_zero_or_pos (Num.nd x).length with h | h
   ·exact absurd (Num.nd_eq_nil.1 (List.eq_nil_of_length_eq_zero h)) h0
   ·exact h
  obtain ⟨m, hm⟩ : ∃ m, (Num.nd x).length = m + 1 := ⟨(Num.nd x).length - 1, by omega⟩
  have hlast := Num.nd_last h0
  have hw := (Num.Ws_nd x).getD m
  obtain ⟨u, hu⟩ : ∃ u : Nat, (u : Int) = (Num.nd x).getD m 0 := ⟨((Num.nd x).getD m 0).toNat, by omega⟩
  rw [hm, Nat.add_sub_cancel, ← hu] at hlast
  have hs := Num.nv_split (Num.nd x) m (by omega)
  have htk := Num.nv_take_lt (Num.Ws_nd x) m (by omega)
  rw [Num.nv_nd, List.drop_of_length_le (by omega), ← hu, Int.toNat_natCast, Num.nv, Nat.mul_zero, Nat.add_zero] at hs
  have hdiv : x / 2 ^ (32 * m) = u := by
   rw [hs, Nat.add_mul_div_left _ _ (Nat.pow_pos (by omega)), Nat.div_eq_of_lt htk, Nat.zero_add]
  have hge : 2 ^ (32 * m) ≤ x := by
   have := Nat.mul_le_mul_left (2 ^ (32 * m)) (show 1 ≤ u from by omega)
   omega
  have hbl := bits_Len32.blen_div (32 * m) x hge
  rw [hdiv] at hbl
  have hu32 : u < 4294967296 := by omega
  have hb32 : Num.blen u ≤ 32 := by
   rcases Nat.lt_or_ge 32 (Num.blen u) with h1 | h1
   ·have h2 := Num.blen_le (show u ≠ 0 from by omega)
    have h3 : 2 ^ 32 ≤ 2 ^ (Num.blen u - 1) := Nat.pow_le_pow_right (by omega) (by omega)
    omega
   ·exact h1
  have ep : wrap64 (((Num.nd x).length : Int) - 1) = (m : Int) := by rw [hm, Dec.w64 (by omega) (by omega)]; omega
  have er : rd (Num.nd x) (m : Int) = (u : Int) := by rw [hu]; simp [rd]
  refine Ev.congr (f := fun _ => some ((Num.blen x : Nat) : Int)) (fun k => ?_) (Ev.now _)
  rw [if_neg (by omega), ep, if_pos (by omega), if_pos (by omega), er, bits_Len32.sem hu32, Option.bind_some, Dec.w64 (n := 32 * (m : Int)) (by omega) (by omega), Dec.w64 (by omega) (by omega), hbl]
  congr 1
  omega
set_option synthInstance.checkSynthOrder false in
open Lin in
instance nat_Bits.t {k : Nat} {l0 : List Int} {r : Int} [h : Ans (nat_Bits.f k l0) r] : Tl Try.prog 91 [.one (.row l0)] (.el (.one (.val (.int .i64 r)))) := ⟨Tells.of Try.func91 fun out w vs ho hl hv => by
 obtain ⟨u0, rfl, h0⟩ := args1 hl hv
 obtain ⟨A0, c0, rfl, hc0, hr0, hb0⟩ := h0
 refine (nat_Bits.calls k A0 c0 l0 _ w hr0 hc0 h.out).mono ?_
 rintro e w' ⟨rfl, hb⟩
 exact ⟨_, rfl, ⟨rfl, rfl⟩, hb⟩⟩
def rat_den.f (k : Nat) (a0_0 : Bool) (l0_1 : List Int) (l0_2 : List Int) : Option (List Int) := (nat_Bits.f k l0_2).bind fun t146 => (if t146 = 0 then ((nat_Of.f k 1).bind fun t147 => (some t147)) else (some l0_2))
theorem rat_den.ev {m : Bool} {l1 l2 : List Int} (hW : Num.Ws l2) (hl : l2.length < 1000000) : Ev (fun k => rat_den.f k m l1 l2) (Qn.dl l2) := by
 have B := nat_Bits.ev hW (by omega)
 unfold rat_den.f Qn.dl
 refine Ev.bind B ?_
 have hb := Num.blen_lt (Num.nv l2)
 by_cases h : Num.nv l2 = 0
 ·rw [if_pos h]
  exact Dec.yes (by rw [h, Num.blen_zero]; rfl) (Ev.bind (nat_Of.ev 1 (by omega)) (Ev.now _))
 ·rw [if_neg h]
  refine Dec.no (fun e => h ?_) (Ev.now _)
  have e0 : Num.blen (Num.nv l2) = 0 := by omega
  rw [e0, Nat.pow_zero] at hb
  omega
set_option synthInstance.checkSynthOrder false in
open Lin in
set_option maxHeartbeats 4000000 in
instance rat_den.t {k : Nat} {a0_0 : Bool} {l0_1 : List Int} {l0_2 : List Int} {r : List Int} [h : Ans (rat_den.f k a0_0 l0_1 l0_2) r] : Tl Try.prog 63 [.agg [.val (.bool a0_0), .row l0_1, .row l0_2]] (.el (.one (.row r))) := by
 have h := h.out
 unfold rat_den.f at h
 repeat' (first | (replace h := Lin.bndK h) | (replace h := Lin.bnd h; obtain ⟨_, _, h⟩ := h) | split at h | cases h)
 all_goals exact ⟨Tells.go Try.func63 Try.ntmps63⟩
section
def nat_Small.f (_k : Nat) (l0 : List Int) : Option (Int × Bool) := if Num.okw l0 = true then (if Num.nv l0 < 18446744073709551616 then some ((Num.nv l0 : Int), true) else some (0, false)) else none
def nat_Small.go (z : List Int) (pre : List Nat) : Int := pre.foldl (fun s j => Go.bits .or .u64 (IntKind.u64.wrap (s * 4294967296)) (IntKind.u64.wrap (Back.wd z j))) 0
theorem nat_Small.go_snoc (z : List Int) (pre : List Nat) (x : Nat) : nat_Small.go z (pre ++ [x]) = Go.bits .or .u64 (IntKind.u64.wrap (nat_Small.go z pre * 4294967296)) (IntKind.u64.wrap (Back.wd z x)) := by simp [nat_Small.go]
theorem nat_Small.wrap_u64 (n : Int) : IntKind.u64.wrap n = n % 18446744073709551616 := by simp [IntKind.wrap, IntKind.bits, IntKind.signed]
theorem nat_Small.join (x y : Int) (h0 : 0 ≤ x) (h1 : x < 4294967296) (h2 : 0 ≤ y) (h3 : y < 4294967296) : Go.bits .or .u64 (IntKind.u64.wrap (x * 4294967296)) (IntKind.u64.wrap y) = x * 4294967296 + y := by
 have e1 : IntKind.u64.wrap (x * 4294967296) = x * 4294967296 := by rw [nat_Small.wrap_u64]; omega
 have e2 : IntKind.u64.wrap y = y := by rw [nat_Small.wrap_u64]; omega
 rw [e1, e2]
 exact bits_join .u64 64 (by decide) (fun n a b => by rw [nat_Small.wrap_u64]; omega) 32 _ _ (by omega) (by omega) (by omega) h2 (by omega) (by omega)
theorem nat_Small.go_all {z : List Int} (hW : Num.Ws z) (hl : z.length ≤ 2) : nat_Small.go z (List.range z.length) = (Num.nv z : Int) := by
 match z, hW, hl with
 | [], _, _ => rfl
 | [x], hW, _ =>
  have hx := hW.head
  have := nat_Small.join 0 x (by omega) (by omega) hx.1 hx.2
  simp [Back.wd, Back.ix, nat_Small.go, Num.nv, List.range_succ] at this ⊢
  rw [this]
  omega
 | [x, y], hW, _ =>
  have hx := hW.head
  have hy := hW.tail.head
  have a := nat_Small.join 0 y (by omega) (by omega) hy.1 hy.2
  have b := nat_Small.join y x hy.1 hy.2 hx.1 hx.2
  simp [Back.wd, Back.ix, nat_Small.go, Num.nv, List.range_succ] at a b ⊢
  rw [a, b]
  omega
open Go.Shelf Back in
attribute [local go_sem] Oper.semAt_some in
set_option maxHeartbeats 8000000 in
set_option maxRecDepth 100000 in
theorem nat_Small.calls (k : Nat) (A0 : Option Addr) (c0 : Nat) (l0 : List Int) (r1 : Int) (r2 : Bool) (w : World) (hr0 : Kd.C (Kd.int .u32) w A0 l0.length l0) (hc0 : l0.length ≤ c0) (h : nat_Small.f k l0 = some (r1, r2)) :
  Calls Try.prog 93 #[.slice A0 l0.length c0] w fun e w' => e = .returned (.tuple #[.int .u64 r1, .bool r2]) ∧ Below w.heap.size w w' := by
 have hok : Num.okw l0 = true := by
  unfold nat_Small.f at h
  split at h
  ·assumption
  ·cases h
 have ht := nat_trim.sem hok (l0.length + 1) (by omega)
 obtain ⟨z, hz⟩ : ∃ z, z = Num.nd (Num.nv l0) := ⟨_, rfl⟩
 have hW : Num.Ws z := by rw [hz]; exact Num.Ws_nd _
 have hnv : Num.nv z = Num.nv l0 := by rw [hz, Num.nv_nd]
 rw [← hz] at ht
 have hl := Num.nv_lt hW
 have HT := Aside0.mk ht
 have HR := Aside0.mk hr0
 have HC := Aside0.mk hc0
 unfold nat_Small.f at h
 rw [if_pos hok] at h
 by_cases hs : Num.nv l0 < 18446744073709551616
 ·rw [if_pos hs] at h
  obtain ⟨rfl, rfl⟩ : (Num.nv l0 : Int) = r1 ∧ true = r2 := by simpa using h
  have hz2 : z.length ≤ 2 := by
   rw [hz]
   exact Num.nd_length_le (k := 2) (by omega)
  have HN := Aside0.mk hnv
  have HZ := Aside0.mk hz
  have HW := Aside0.mk hW
  clear h ht hr0 hc0 hnv hz hs hl hok hW
  refine (callsIn_wide (n := 3)).1 ?_
  refine callsIn_of_wp_marks Try.func93 rfl trivial ?_ rfl
  simp only [Try.ntmps93, List.size_toArray, List.length_cons, List.length_nil, Nat.reduceAdd, Nat.reduceSub, Array.replicate_succ, Array.replicate_zero, List.push_toArray, List.append_toArray, List.nil_append, List.cons_append]
  gi_wp2_with (first | (refine ⟨trivial, ?_⟩; gi_at_call 71; refine (callsIn_wide.2 (nat_trim.calls _ _ _ l0 _ _ HR.out HC.out HT.out)).mono ?_; rintro e w1 ⟨v, rfl, ho, hb⟩; obtain ⟨A, c, hv⟩ := Kd.R_slice ho; subst hv) | (refine ⟨trivial, ?_⟩; gi_at_call 97; refine (back_in Fence.wide _ trivial rfl _ _ _ _).mono ?_; rintro e w2 ⟨rfl, rfl⟩))
  have hsz := hb.size
  have bN := Boxed.new w1 22 (.int .u64 0)
  have bS := Boxed.new (w1.alloc (.cells #[.int .u64 0] 22)) 30 (.slice A z.length c)
  rw [World.size_alloc] at bS
  have hB0 : Below w.heap.size w ((w1.alloc (.cells #[.int .u64 0] 22)).alloc (.cells #[.slice A z.length c] 30)) := (hb.alloc hsz _).alloc (by simp; omega) _
  have hrow := (Row.ofR ho (Nat.le_refl _)).below (((Below.refl _ w1).alloc (Nat.le_refl _) (.cells #[.int .u64 0] 22)).alloc (by simp) (.cells #[.slice A z.length c] 30))
  refine wpIn_rangeFunc_ownG (F := Fence.wide) (n := 3) rfl (by omega) (gf := 104) (lb := #[.pointer (some ⟨w1.heap.size + 1, 0, none⟩)]) rfl trivial (enters_of Try.func104 (by kernel_rfl) rfl)
   (back_stops Fence.wide _ trivial rfl (by omega) (w1.heap.size + 1) w1.heap.size _ z (by omega) _ (by simp) (by simp; omega) bS.cell hrow) KB.trans (KB.putObj (by simp; omega) (by simp)) (Below.refl _ _) (fun _ => rfl)
   (fun pre W => (W.cell? ⟨w1.heap.size, 0, none⟩ = some (.int .u64 (nat_Small.go z pre)) ∧ W.frozen? ⟨w1.heap.size, 0, none⟩ = false) ∧ Below w.heap.size w W)
   (fun _ _ _ => False)
   (OwnFrom.and (Own.from (fun s A B row hs hg hr => ⟨cell_kept hs.1 hg hr, (frozen_kept hs.1 hg hr).trans hs.2⟩) _) (ownFrom_below (Nat.le_refl _) (by simp; omega)))
   (fun _ _ _ _ _ hs _ _ => hs)
   ⟨⟨(bN.alloc _).cell, (bN.alloc _).frozen⟩, hB0⟩
   (fun x => { tmps := #[.slice A z.length c, undef, .int .u64 0, .bool false, .pointer (some ⟨w1.heap.size, 0, none⟩), undef, .int .u32 (wd z x), .slice A0 l0.length c0, .slice A z.length c, .slice A z.length c, .int .i64 (z.length : Int), .bool (decide (2 < (z.length : Int))), .slice A z.length c, .func (.func 104) #[] #[.pointer (some ⟨w1.heap.size + 1, 0, none⟩)], .int .i64 (ix z.length x : Int), .int .u32 (wd z x), undef, undef, undef, undef, undef, undef], defers := [] }) ?assign ?body ?done ?stop
  case assign =>
   intro l x W K hK
   gi_wp2
   exact hK
  case body =>
   rintro l pre x W ⟨⟨hc, hf⟩, hB⟩ _
   gi_wp2
   exact ⟨(KeepsOthers.setCell _ _ _).from _, KB.setCell (Nat.le_refl _) (by omega) _, ⟨by rw [nat_Small.go_snoc]; exact World.cell?_setCell_same' _ _ _ (by rw [hc]; rfl), by rw [World.frozen?_setCell]; exact hf⟩, hB.setCell (p := ⟨w1.heap.size, 0, none⟩) hb.size _⟩
  case done =>
   rintro D ys W hD rfl ⟨⟨hc, hf⟩, hB⟩ hK
   gi_wp2
   refine ⟨by simp, .inl ⟨_, _, rfl, run_takeDeferred hK, ?_⟩⟩
   refine ⟨_, results_tmp2 rfl _ _ _, ?_, hB.trans (belowK_b (w := w) (Nat.le_refl _) W D _ _ (by simp at hD; omega) hK rfl rfl)⟩
   rw [nat_Small.go_all HW.out hz2, HN.out]
   rfl
  case stop =>
   rintro D c pre W _ _ h _
   exact h.elim
 ·rw [if_neg hs] at h
  obtain ⟨rfl, rfl⟩ : (0 : Int) = r1 ∧ false = r2 := by simpa using h
  have hz3 : 3 ≤ z.length := by
   rcases Nat.lt_or_ge z.length 3 with h3 | h3
   ·exfalso
    have : 2 ^ (32 * z.length) ≤ 2 ^ 64 := Nat.pow_le_pow_right (by omega) (by omega)
    omega
   ·exact h3
  clear h ht hr0 hc0 hnv hz hs hl hok hW
  go_enter Try.func93, Try.ntmps93
  go_wp2_with (go_at_call 71; refine (nat_trim.calls _ _ _ l0 _ _ HR.out HC.out HT.out).mono ?_; rintro e w1 ⟨v, rfl, ho, hb⟩; obtain ⟨A, c, hv⟩ := Kd.R_slice ho; subst hv)
  go_ret2
  exact ⟨rfl, hb⟩
set_option synthInstance.checkSynthOrder false in
open Lin in
instance nat_Small.t {_k : Nat} {l0 : List Int} {r : Int × Bool} [h : Ans (nat_Small.f _k l0) r] : Tl Try.prog 93 [.one (.row l0)] (.tup [.one (.val (.int .u64 r.1)), .one (.val (.bool r.2))]) := ⟨Tells.of Try.func93 fun out w vs ho hl hv => by
 obtain ⟨u0, rfl, h0⟩ := args1 hl hv
 obtain ⟨A0, c0, rfl, hc0, hr0, hb0⟩ := h0
 refine (nat_Small.calls _k A0 c0 l0 _ _ w hr0 hc0 h.out).mono ?_
 rintro e w' ⟨rfl, hb⟩
 exact ⟨_, rfl, tup2 (⟨rfl, rfl⟩) (⟨rfl, rfl⟩), hb⟩⟩
end
section
def nat_Compare.f (_k : Nat) (l0 : List Int) (l1 : List Int) : Option (Int) := if Num.okw l0 = true then (if Num.okw l1 = true then some (Num.cmp (Num.nv l0) (Num.nv l1)) else none) else none
theorem nat_Compare.drop_eq {a b : List Int} (hl : a.length = b.length) (k : Nat) (hk : k ≤ a.length) (he : ∀ p ∈ List.range k, Back.wd a p = b[Back.ix a.length p]?.getD 0) : a.drop (a.length - k) = b.drop (a.length - k) := by
 apply List.ext_getElem
 ·simp [hl]
 ·intro i h1 h2
  rw [List.length_drop] at h1
  have hp := he (k - 1 - i) (List.mem_range.2 (by omega))
  have hi : a.length - 1 - (k - 1 - i) = a.length - k + i := by omega
  simp only [Back.wd, Back.ix, hi] at hp
  rw [List.getElem?_eq_getElem (by omega), List.getElem?_eq_getElem (by omega)] at hp
  simpa using hp
theorem nat_Compare.at_stop {a b : List Int} (ha : Num.Ws a) (hb : Num.Ws b) (hl : a.length = b.length) (k : Nat) (hk : k < a.length) (he : ∀ p ∈ List.range k, Back.wd a p = b[Back.ix a.length p]?.getD 0) (hne : Back.wd a k ≠ b[Back.ix a.length k]?.getD 0) :
  (if Back.wd a k < b[Back.ix a.length k]?.getD 0 then -1 else 1) = Num.cmp (Num.nv a) (Num.nv b) := by
 have hd := nat_Compare.drop_eq hl k (by omega) he
 have hq : a.length - 1 - k + 1 = a.length - k := by omega
 by_cases h : Back.wd a k < b[Back.ix a.length k]?.getD 0
 ·rw [if_pos h, Num.cmp_lt (Num.nv_lt_of_at ha hb (a.length - 1 - k) (by omega) (by omega) (by rw [hq]; exact hd) (by simpa [Back.wd, Back.ix, List.getD_eq_getElem?_getD] using h))]
 ·rw [if_neg h, Num.cmp_gt (Num.nv_lt_of_at hb ha (a.length - 1 - k) (by omega) (by omega) (by rw [hq]; exact hd.symm) (by simp only [Back.wd, Back.ix] at h hne; simp only [List.getD_eq_getElem?_getD]; omega))]
open Go.Shelf Back in
attribute [local go_sem] Oper.semAt_some in
set_option maxHeartbeats 1000000 in
set_option maxRecDepth 100000 in
theorem nat_Compare.calls (k : Nat) (A0 : Option Addr) (c0 : Nat) (l0 : List Int) (A1 : Option Addr) (c1 : Nat) (l1 : List Int) (r : Int) (w : World) (hr0 : Kd.C (Kd.int .u32) w A0 l0.length l0) (hc0 : l0.length ≤ c0) (hr1 : Kd.C (Kd.int .u32) w A1 l1.length l1) (hc1 : l1.length ≤ c1) (h : nat_Compare.f k l0 l1 = some r) :
  Calls Try.prog 78 #[.slice A0 l0.length c0, .slice A1 l1.length c1] w fun e w' => e = .returned (.int .i64 r) ∧ Below w.heap.size w w' := by
 have hok0 : Num.okw l0 = true := by
  unfold nat_Compare.f at h
  split at h
  ·assumption
  ·cases h
 have hok1 : Num.okw l1 = true := by
  unfold nat_Compare.f at h
  rw [if_pos hok0] at h
  split at h
  ·assumption
  ·cases h
 obtain rfl : Num.cmp (Num.nv l0) (Num.nv l1) = r := by
  unfold nat_Compare.f at h
  rw [if_pos hok0, if_pos hok1] at h
  exact Option.some.inj h
 have ht0 := nat_trim.sem hok0 (l0.length + 1) (by omega)
 have ht1 := nat_trim.sem hok1 (l1.length + 1) (by omega)
 obtain ⟨z0, hz0⟩ : ∃ z, z = Num.nd (Num.nv l0) := ⟨_, rfl⟩
 obtain ⟨z1, hz1⟩ : ∃ z, z = Num.nd (Num.nv l1) := ⟨_, rfl⟩
 have hn0 := Num.okw_nd_length hok0
 have hn1 := Num.okw_nd_length hok1
 rw [← hz0] at ht0 hn0
 rw [← hz1] at hn1
 rw [← hz1] at ht1
 have HT0 := Aside0.mk ht0
 have HT1 := Aside0.mk ht1
 have HR0 := Aside0.mk hr0
 have HC0 := Aside0.mk hc0
 have HR1 := Aside0.mk hr1
 have HC1 := Aside0.mk hc1
 have HZ0 := Aside0.mk hz0
 have HZ1 := Aside0.mk hz1
 clear ht0 ht1 hr0 hc0 hr1 hc1 hz0 hz1 h hok0 hok1
 have hB0 : Below w.heap.size w ((w.alloc (.cells #[.slice A1 l1.length c1] 30)).alloc (.cells #[.int .i64 0] 3)) := ((Below.refl _ w).alloc (Nat.le_refl _) _).alloc (by simp) _
 have bB := (Boxed.new w 30 (.slice A1 l1.length c1)).alloc (.cells #[.int .i64 0] 3)
 have bR := Boxed.new (w.alloc (.cells #[.slice A1 l1.length c1] 30)) 3 (.int .i64 0)
 rw [World.size_alloc] at bR
 refine (callsIn_wide (n := 3)).1 ?_
 refine callsIn_of_wp_marks Try.func78 rfl trivial ?_ rfl
 simp only [Try.ntmps78, List.size_toArray, List.length_cons, List.length_nil, Nat.reduceAdd, Nat.reduceSub, Array.replicate_succ, Array.replicate_zero, List.push_toArray, List.append_toArray, List.nil_append, List.cons_append]
 gi_wp2
 have hcb0 := bB.cell
 have hsz0 : ((w.alloc (.cells #[.slice A1 l1.length c1] 30)).alloc (.cells #[.int .i64 0] 3)).heap.size = w.heap.size + 2 := by simp
 generalize ((w.alloc (.cells #[.slice A1 l1.length c1] 30)).alloc (.cells #[.int .i64 0] 3)) = w0 at hB0 bB bR hcb0 hsz0 ⊢
 refine wpIn_noPanic ?_
 have hlt0 : w.heap.size < w0.heap.size := bB.lt
 gi_region_with (first | (refine ⟨trivial, ?_⟩; gi_at_call 71; (with_reducible refine (callsIn_wide.2 (nat_trim.calls _ _ _ l0 _ _ (Kd.C_below HR0.out hB0.drew) HC0.out HT0.out)).mono ?_); rintro e w1 ⟨v0, rfl, ho0, hb0⟩; obtain ⟨Az0, cz0, hv0⟩ := Kd.R_slice ho0; subst hv0; have hB1 : Below w.heap.size w w1 := hB0.drew.trans (hb0.mono hB0.size); have bB1 : Boxed w1 w.heap.size 30 (.slice A1 l1.length c1) := (hb0.block _ hlt0).trans bB; have hcb1 := bB1.cell) | (refine ⟨trivial, ?_⟩; gi_at_call 71; (with_reducible refine (callsIn_wide.2 (nat_trim.calls _ _ _ l1 _ _ (Kd.C_below HR1.out hB1) HC1.out HT1.out)).mono ?_); rintro e w2 ⟨v1, rfl, ho1, hb1⟩; obtain ⟨Az1, cz1, hv1⟩ := Kd.R_slice ho1; subst hv1; have bB2 : Boxed w2 w.heap.size 30 (.slice A1 l1.length c1) := (hb1.block _ bB1.lt).trans bB1; have hcb2 := bB2.cell; have hfb2 := bB2.frozen))
 all_goals
  refine noPanic_then ?_
  have hs0 : w0.drew.heap.size = w0.heap.size := rfl
  have hs1 := hb0.size
  have hs2 := hb1.size
  have R03 := Kd.R_far (p := ⟨w.heap.size, 0, none⟩) (Kd.R_mono (Kd.R_bound (Kd.R_below ho0 hb1)) (ok' := fun k => w0.heap.size ≤ k) (fun k hk => hk.2.1)) (fun k hk => by simp only; omega) (.slice Az1 z1.length cz1)
  have R13 := Kd.R_far (p := ⟨w.heap.size, 0, none⟩) (Kd.R_mono (Kd.R_bound ho1) (ok' := fun k => w1.heap.size ≤ k) (fun k hk => hk.2.1)) (fun k hk => by simp only; omega) (.slice Az1 z1.length cz1)
  have hB3 : Below w.heap.size w (w2.setCell ⟨w.heap.size, 0, none⟩ (.slice Az1 z1.length cz1)) := (hB1.trans (hb1.mono (by omega))).setCell (p := ⟨w.heap.size, 0, none⟩) (Nat.le_refl _) _
  have bB3 := bB2.set (.slice Az1 z1.length cz1)
  have bR3 : Boxed (w2.setCell ⟨w.heap.size, 0, none⟩ (.slice Az1 z1.length cz1)) (w.heap.size + 1) 3 (.int .i64 0) := (Below.heap_setCell _ _ _ _ (by simp)).trans ((hb1.block _ (by omega)).trans ((hb0.block _ (by omega)).trans bR))
  have hs3 : w2.heap.size = (w2.setCell ⟨w.heap.size, 0, none⟩ (.slice Az1 z1.length cz1)).heap.size := by simp [World.setCell]
  generalize w2.setCell ⟨w.heap.size, 0, none⟩ (.slice Az1 z1.length cz1) = W3 at R03 R13 hB3 bB3 bR3 hs3 ⊢
  have hc3 := bB3.cell
  have hcr3 := bR3.cell
  have hfr3 := bR3.frozen
  clear bB2 hcb2 hfb2 bB1 hcb1 hcb0 bB bR
  have hc5 : ∀ x, (W3.setCell ⟨w.heap.size + 1, 0, none⟩ (.int .i64 x)).cell? ⟨w.heap.size + 1, 0, none⟩ = some (.int .i64 x) := fun x => World.cell?_setCell_same' _ _ _ (by rw [hcr3]; rfl)
  have HC5 := Aside0.mk hc5
  clear hc5
  rcases Nat.lt_trichotomy z0.length z1.length with hl | hl | hl
  ·gi_wp2
   all_goals
    have hcmp : Num.cmp (Num.nv l0) (Num.nv l1) = -1 := Num.cmp_lt (Num.lt_of_len (by rw [← HZ0.out, ← HZ1.out]; exact hl))
    refine ⟨.int .i64 (-1), ?_, by rw [hcmp], hB3.setCell (p := ⟨w.heap.size + 1, 0, none⟩) (by simp) _⟩
    have hc5 := HC5.out
    simp [results, Try.f78, go_sem, hc5]
    try omega
  ·have HL := Aside0.mk hl
   gi_wp2_with (refine ⟨trivial, ?_⟩; gi_at_call 97; refine (back_in Fence.wide _ trivial rfl _ _ _ _).mono ?_; rintro e w4 ⟨rfl, rfl⟩)
   have row0 := (Row.ofR R03 (Nat.le_refl _)).below ((Below.refl W3.heap.size W3).alloc (Nat.le_refl _) (.cells #[.slice Az0 z0.length cz0] 30))
   have row1 := Row.ofR R13 (Nat.le_refl _)
   rw [hl] at row0
   have bS := Boxed.new W3 30 (.slice Az0 z1.length cz0)
   clear R03 R13 hl
   refine wpIn_rangeFunc_ownG (F := Fence.wide) (n := 3) rfl (by omega) (gf := 104) (lb := #[.pointer (some ⟨W3.heap.size, 0, none⟩)]) rfl trivial (enters_of Try.func104 (by kernel_rfl) rfl)
    (back_stops Fence.wide _ trivial rfl (by omega) W3.heap.size W3.heap.size _ z0 (by omega) _ (by simp) (by simp) bS.cell row0) KB.trans (KB.putObj (by simp) (by simp)) (Below.refl _ _) (fun _ => rfl)
    (fun pre W => (∀ p ∈ pre, wd z0 p = z1[ix z0.length p]?.getD 0) ∧ Below W3.heap.size W3 W)
    (fun c pre W => (c = .ret ∧ ∃ ini j, pre = ini ++ [j] ∧ (∀ p ∈ ini, wd z0 p = z1[ix z0.length p]?.getD 0) ∧ wd z0 j ≠ z1[ix z0.length j]?.getD 0 ∧ W.cell? ⟨w.heap.size + 1, 0, none⟩ = some (.int .i64 (if wd z0 j < z1[ix z0.length j]?.getD 0 then -1 else 1))) ∧ Below w.heap.size w W)
    (OwnFrom.and (Own.from (fun s A B row hs hg hr => hs) _) (ownFrom_below (Nat.le_refl _) (by simp)))
    (fun c => OwnFrom.and (Own.from (fun s A B row hs hg hr => by obtain ⟨hc, ini, j, e1, e2, e3, e4⟩ := hs; exact ⟨hc, ini, j, e1, e2, e3, cell_kept e4 hg hr⟩) _) (ownFrom_below (Nat.le_refl _) (by simp; omega)))
    ⟨by simp, (Below.refl _ _).alloc (Nat.le_refl _) _⟩
    (fun x => { tmps := #[.slice Az0 z1.length cz0, .slice A1 l1.length c1, undef, .pointer (some ⟨w.heap.size, 0, none⟩), .pointer (some ⟨w.heap.size + 1, 0, none⟩), .int .i64 (ix z0.length x : Int), .int .u32 (wd z0 x), .slice A0 l0.length c0, .slice Az0 z1.length cz0, .slice A1 l1.length c1, .slice Az1 z1.length cz1, .slice Az0 z1.length cz0, .int .i64 (z1.length : Int), .slice Az1 z1.length cz1, .int .i64 (z1.length : Int), .bool false, undef, undef, undef, undef, undef, undef, undef, .slice Az0 z1.length cz0, .func (.func 104) #[] #[.pointer (some ⟨W3.heap.size, 0, none⟩)], .int .i64 (ix z0.length x : Int), .int .u32 (wd z0 x), undef, undef, undef, undef, undef, undef, undef, undef, undef, undef, undef, undef, undef, undef], defers := [] }) ?assign ?body ?done ?stop
   case assign =>
    intro l x W K hK
    gi_wp2
    exact hK
   case body =>
    rintro l pre x W ⟨hp, hB⟩ hlt
    have hz : ix z0.length x < z1.length := by unfold ix; have := HL.out; omega
    rcases row1 with ⟨_, rfl⟩ | ⟨b, off, cap, e, hb, hcs⟩
    ·simp at hz
    ·cases e
     have hcz := (hB.cell (p := ⟨b, off + ix z0.length x, none⟩) hb).trans (hcs _ hz)
     have hcb := (hB.cell (p := ⟨w.heap.size, 0, none⟩) bB3.lt).trans hc3
     have hcr := (hB.cell (p := ⟨w.heap.size + 1, 0, none⟩) bR3.lt).trans hcr3
     have hfr := (hB.frozen (p := ⟨w.heap.size + 1, 0, none⟩) bR3.lt).trans hfr3
     obtain ⟨y, hy⟩ : ∃ y, y = z1[ix z0.length x]?.getD 0 := ⟨_, rfl⟩
     obtain ⟨u, hu⟩ : ∃ u, u = wd z0 x := ⟨_, rfl⟩
     obtain ⟨q, hq⟩ : ∃ q, q = ix z0.length x := ⟨_, rfl⟩
     rw [← hy] at hcz
     rw [← hu]
     rw [← hq] at hz hcz ⊢
     have HY := Aside0.mk hy
     have HU := Aside0.mk hu
     have HP := Aside0.mk hp
     have HB := Aside0.mk hB
     have HCR := Aside0.mk hcr
     clear hy hu hq hp hB hcs
     have hq0 : (0 : Int) ≤ (q : Int) := by omega
     rcases Int.lt_trichotomy u y with h | h | h
     ·gi_wp2
      exact ⟨(KeepsOthers.setCell _ _ _).from _, ⟨rfl, pre, x, rfl, HP.out, by rw [← HU.out, ← HY.out]; omega, by rw [← HU.out, ← HY.out, if_pos h]; exact World.cell?_setCell_same' _ _ _ (by rw [HCR.out]; rfl)⟩, (hB3.trans (HB.out.mono hB3.size)).setCell (p := ⟨w.heap.size + 1, 0, none⟩) (by simp) _⟩
     ·have h1 : ¬ u < y := by omega
      have h2 : ¬ y < u := by omega
      have H := Aside0.mk h
      clear h
      gi_wp2
      exact ⟨KeepsFrom.refl _ _, KB.refl _ _ _, fun p hp' => (List.mem_append.1 hp').elim (HP.out p) (fun e => by simp at e; subst e; rw [← HU.out, ← HY.out]; exact H.out), HB.out⟩
     ·gi_wp2
      exact ⟨(KeepsOthers.setCell _ _ _).from _, ⟨rfl, pre, x, rfl, HP.out, by rw [← HU.out, ← HY.out]; omega, by rw [← HU.out, ← HY.out, if_neg (by omega)]; exact World.cell?_setCell_same' _ _ _ (by rw [HCR.out]; rfl)⟩, (hB3.trans (HB.out.mono hB3.size)).setCell (p := ⟨w.heap.size + 1, 0, none⟩) (by simp) _⟩
   case done =>
    rintro D ys W hD rfl ⟨hne, hB⟩ hK
    have hcr := (hB.cell (p := ⟨w.heap.size + 1, 0, none⟩) bR3.lt).trans hcr3
    have hfr := (hB.frozen (p := ⟨w.heap.size + 1, 0, none⟩) bR3.lt).trans hfr3
    have HNE := Aside0.mk hne
    clear hne
    gi_wp2
    have hK' := (KeepsOthers.setCell W ⟨w.heap.size + 1, 0, none⟩ (.int .i64 0)).same D _ hK rfl
    refine ⟨by simp, .inl ⟨_, _, rfl, run_takeDeferred hK', ?_⟩⟩
    have hc5 := cell_kept (World.cell?_setCell_same' W ⟨w.heap.size + 1, 0, none⟩ (.int .i64 0) (by rw [hcr]; rfl)) (grownBy_putObj' _ D (.deferred none)) (fun r e => by cases e; exact ⟨_, hK', rfl⟩)
    have heq : z0 = z1 := by
     have := nat_Compare.drop_eq HL.out z0.length (Nat.le_refl _) HNE.out
     simpa using this
    have hcmp : Num.cmp (Num.nv l0) (Num.nv l1) = 0 := Num.cmp_eq (by rw [← Num.nv_nd (Num.nv l0), ← Num.nv_nd (Num.nv l1), ← HZ0.out, ← HZ1.out, heq])
    refine ⟨.int .i64 0, ?_, by rw [hcmp], ((hB3.trans (hB.mono hB3.size)).setCell (p := ⟨w.heap.size + 1, 0, none⟩) (by simp) _).trans (belowK_b (w := w) (Nat.le_refl _) _ D _ _ (by simp at hD; omega) hK' rfl rfl)⟩
    simp [results, Try.f78, go_sem, hc5]
   case stop =>
    rintro D c pre W hD ⟨k', hk', rfl⟩ ⟨⟨rfl, ini, j, e1, e2, e3, hcr⟩, hB⟩ hK
    gi_wp2
    refine ⟨by simp, .inl ⟨_, _, rfl, run_takeDeferred hK, ?_⟩⟩
    have hc5 := cell_kept hcr (grownBy_putObj' _ D (.deferred none)) (fun r e => by cases e; exact ⟨_, hK, rfl⟩)
    obtain ⟨k2, rfl⟩ : ∃ k2, k' = k2 + 1 := by
     cases k' with
     | zero => simp at e1
     | succ k2 => exact ⟨k2, rfl⟩
    rw [List.range_succ] at e1
    obtain ⟨rfl, e5⟩ := List.append_inj' e1 rfl
    obtain rfl : k2 = j := by simpa using e5
    have hcmp := nat_Compare.at_stop (by rw [HZ0.out]; exact Num.Ws_nd _) (by rw [HZ1.out]; exact Num.Ws_nd _) HL.out k2 (by omega) e2 e3
    have hv : Num.cmp (Num.nv z0) (Num.nv z1) = Num.cmp (Num.nv l0) (Num.nv l1) := by rw [HZ0.out, HZ1.out, Num.nv_nd, Num.nv_nd]
    rw [hcmp, hv] at hc5
    refine ⟨.int .i64 (Num.cmp (Num.nv l0) (Num.nv l1)), ?_, rfl, hB.trans (belowK_b (w := w) (Nat.le_refl _) W D _ _ (by simp at hD; omega) hK rfl rfl)⟩
    simp [results, Try.f78, go_sem, hc5]
  ·gi_wp2
   all_goals
    have hcmp : Num.cmp (Num.nv l0) (Num.nv l1) = 1 := Num.cmp_gt (Num.lt_of_len (by rw [← HZ0.out, ← HZ1.out]; exact hl))
    refine ⟨.int .i64 1, ?_, by rw [hcmp], hB3.setCell (p := ⟨w.heap.size + 1, 0, none⟩) (by simp) _⟩
    have hc5 := HC5.out
    simp [results, Try.f78, go_sem, hc5]
    try omega
set_option synthInstance.checkSynthOrder false in
open Lin in
instance nat_Compare.t {_k : Nat} {l0 : List Int} {l1 : List Int} {r : Int} [h : Ans (nat_Compare.f _k l0 l1) r] : Tl Try.prog 78 [.one (.row l0), .one (.row l1)] (.el (.one (.val (.int .i64 r)))) := ⟨Tells.of Try.func78 fun out w vs ho hl hv => by
 obtain ⟨u0, u1, rfl, h0, h1⟩ := args2 hl hv
 obtain ⟨A0, c0, rfl, hc0, hr0, hb0⟩ := h0
 obtain ⟨A1, c1, rfl, hc1, hr1, hb1⟩ := h1
 refine (nat_Compare.calls _k A0 c0 l0 A1 c1 l1 _ w hr0 hc0 hr1 hc1 h.out).mono ?_
 rintro e w' ⟨rfl, hb⟩
 exact ⟨_, rfl, ⟨rfl, rfl⟩, hb⟩⟩
end
def nat_at.f (l0 : List Int) (a1 : Int) : Option (Int) := if a1 < (l0.length : Int) then (if 0 ≤ a1 then (some (IntKind.u64.wrap (rd l0 a1))) else (none)) else (some 0)
set_option maxHeartbeats 8000000 in
set_option maxRecDepth 100000 in
theorem nat_at.calls (A0 : Option Addr) (c0 : Nat) (l0 : List Int) (a1 : Int) (r : Int) (w : World) (hr0 : Kd.C (Kd.int .u32) w A0 l0.length l0) (hc0 : l0.length ≤ c0) (h : nat_at.f l0 a1 = some r) :
  Calls Try.prog 102 #[.slice A0 l0.length c0, .int .i64 a1] w fun e w' => e = .returned (.int .u64 r) ∧ Drawn0 w w' := by
 have HR0 := Aside0.mk hr0
 have HC0 := Aside0.mk hc0
 clear hr0 hc0
 have H : (if a1 < (l0.length : Int) then (if 0 ≤ a1 then (some (IntKind.u64.wrap (rd l0 a1))) else (none)) else (some 0)) = some r := h
 clear h
 by_cases c3 : a1 < (l0.length : Int)
 ·rw [if_pos c3] at H
  have c3b0 : decide (a1 < (l0.length : Int)) = true := decide_eq_true c3
  clear c3
  by_cases c4 : 0 ≤ a1
  ·rw [if_pos c4] at H
   have c4b0 : decide (0 ≤ a1) = true := decide_eq_true c4
   clear c4
   obtain rfl := Option.some.inj H
   have p159 : 0 ≤ (a1 : Int) := of_decide_eq_true (by first | (with_reducible assumption) | assumption)
   have q159 : a1 < (l0.length : Int) := of_decide_eq_true (by first | (with_reducible assumption) | assumption)
   obtain ⟨ad159, e159, hx159_0⟩ := Kd.at_int HR0.out a1 p159 q159
   cases e159
   replace p159 := eq_true p159
   replace q159 := eq_true q159
   go_enter Try.func102, Try.ntmps102
   go_wp2
   go_ret
   exact ⟨by first | rfl | (simp; done) | (simp [*]; done), by repeat (first | exact Drawn0.refl _ | apply Drawn0.step)⟩
  ·rw [if_neg c4] at H
   exact absurd H (by simp)
 ·rw [if_neg c3] at H
  have c3b0 : decide (a1 < (l0.length : Int)) = false := decide_eq_false c3
  clear c3
  obtain rfl := Option.some.inj H
  go_enter Try.func102, Try.ntmps102
  go_wp2
  go_ret
  exact ⟨by first | rfl | (simp; done) | (simp [*]; done), by repeat (first | exact Drawn0.refl _ | apply Drawn0.step)⟩

theorem nat_at.sem {l : List Int} (hW : Num.Ws l) (i : Nat) : nat_at.f l (i : Int) = some (l.getD i 0) := by
 have hg := hW.getD i
 unfold nat_at.f
 by_cases h : i < l.length
 ·rw [if_pos (by omega), if_pos (by omega)]
  have hr : rd l (i : Int) = l.getD i 0 := by simp [rd]
  have hu : IntKind.u64.wrap (l.getD i 0) = l.getD i 0 := by
   have : IntKind.u64.wrap (l.getD i 0) = l.getD i 0 % 18446744073709551616 := by simp [IntKind.wrap, IntKind.bits, IntKind.signed]
   rw [this]; omega
  rw [hr, hu]
 ·rw [if_neg (by omega), List.getD_eq_getElem?_getD, List.getElem?_eq_none (by omega)]
  rfl
def nat_Sub.l0 : Nat → List Int → List Int → List Int → Int → Int → Int → Option (List Int × Bool)
 | 0, _, _, _, _, _, _ => none
 | k + 1, x0, x1, x6, x7, x18, x19 => if x19 < x18 then ((nat_at.f x0 x19).bind fun t164 => ((nat_at.f x1 x19).bind fun t165 => (if 0 ≤ x19 then (if x19 < (x6.length : Int) then (nat_Sub.l0 k x0 x1 (x6.set (x19 : Int).toNat ((IntKind.u64.wrap ((IntKind.u64.wrap (t164 - t165)) - x7)) % 4294967296)) ((IntKind.u64.wrap ((IntKind.u64.wrap (t164 - t165)) - x7)) / 9223372036854775808) x18 (wrap64 (x19 + 1))) else (none)) else (none)))) else ((nat_trim.f k x6).bind fun t167 => (some (t167, true)))
def nat_Sub.f (k : Nat) (l0 : List Int) (l1 : List Int) : Option (List Int × Bool) := (nat_Compare.f k l0 l1).bind fun t160 => (if t160 < 0 then (some (([] : List Int), false)) else (if 0 ≤ (l0.length : Int) then (if ((l0.length : Int) : Int).toNat ≤ 70368744177664 then ((some (List.replicate ((l0.length : Int) : Int).toNat 0 : List Int)).bind fun y161 => (nat_Sub.l0 k l0 l1 y161 0 (y161.length : Int) 0)) else (none)) else (none)))
set_option maxHeartbeats 8000000 in
set_option maxRecDepth 100000 in
theorem nat_Sub.calls (k : Nat) (A0 : Option Addr) (c0 : Nat) (l0 : List Int) (A1 : Option Addr) (c1 : Nat) (l1 : List Int) (r1 : List Int) (r2 : Bool) (w : World) (hr0 : Kd.C (Kd.int .u32) w A0 l0.length l0) (hc0 : l0.length ≤ c0) (hr1 : Kd.C (Kd.int .u32) w A1 l1.length l1) (hc1 : l1.length ≤ c1) (h : nat_Sub.f k l0 l1 = some (r1, r2)) :
  Calls Try.prog 90 #[.slice A0 l0.length c0, .slice A1 l1.length c1] w fun e w' => ∃ v0_ : Value, e = .returned (.tuple #[v0_, .bool r2]) ∧ Kd.R (Kd.int .u32) 92 w' w.heap.size (fun _ => True) v0_ r1 ∧ Below w.heap.size w w' := by
 have HR0 := Aside0.mk hr0
 have HC0 := Aside0.mk hc0
 clear hr0 hc0
 have HR1 := Aside0.mk hr1
 have HC1 := Aside0.mk hc1
 clear hr1 hc1
 have HB := Aside0.mk (Below.refl w.heap.size w)
 have H : ((nat_Compare.f k l0 l1).bind fun t160 => (if t160 < 0 then (some (([] : List Int), false)) else (if 0 ≤ (l0.length : Int) then (if ((l0.length : Int) : Int).toNat ≤ 70368744177664 then ((some (List.replicate ((l0.length : Int) : Int).toNat 0 : List Int)).bind fun y161 => (nat_Sub.l0 k l0 l1 y161 0 (y161.length : Int) 0)) else (none)) else (none)))) = some (r1, r2) := h
 clear h
 replace H := Option.bind_eq_some_iff.mp H
 obtain ⟨t160, A30, H⟩ := H
 try dsimp only at H
 have A3 := Aside0.mk A30
 clear A30
 by_cases c4 : t160 < 0
 ·rw [if_pos c4] at H
  have c4b0 : decide (t160 < 0) = true := decide_eq_true c4
  clear c4
  simp only [Option.some.injEq, Prod.mk.injEq] at H
  obtain ⟨rfl, rfl⟩ := H
  go_enter Try.func90, Try.ntmps90
  go_wp2_with (first | ((with_reducible refine gate_callee (f := 78) rfl ?_); refine Short.goesS_ (some 12) Try.func78 #[.slice A0 l0.length c0, .slice A1 l1.length c1] ?_; (with_reducible refine (nat_Compare.calls k _ _ l0 _ _ l1 t160 _ HR0.out HC0.out HR1.out HC1.out A3.out).mono ?_); rintro e w5 ⟨rfl, hb⟩; refine ⟨_, rfl, ?_⟩; replace HB := Aside0.mk (below_step (by repeat (first | (with_reducible first | exact HB.out | apply below_alloc | apply pw_below_drewN | apply below_drew1) | exact HB.out)) hb); (try clear hb)))
  go_ret2
  exact ⟨_, by rfl, by first | exact Kd.R_nil _ _ _ _ _ | exact Kd.N_nil _ _ _ _ _ | exact Kd.V_nil _ _ _ _ _ | exact Kd.Q_nil _ _ _ _ _ | exact Kd.S_nil _ _ _ _ _, by repeat (first | (with_reducible first | exact HB.out | apply below_alloc | apply pw_below_drewN | apply below_drew1) | exact HB.out)⟩
 ·rw [if_neg c4] at H
  have c4b0 : decide (t160 < 0) = false := decide_eq_false c4
  clear c4
  by_cases c6 : 0 ≤ (l0.length : Int)
  ·rw [if_pos c6] at H
   have c6b0 := eq_true c6
   have c6b1 : decide (0 ≤ (l0.length : Int)) = true := decide_eq_true c6
   clear c6
   by_cases c7 : ((l0.length : Int) : Int).toNat ≤ 70368744177664
   ·rw [if_pos c7] at H
    have c7b0 := eq_true c7
    have c7b1 : decide (((l0.length : Int) : Int).toNat ≤ 70368744177664) = true := decide_eq_true c7
    clear c7
    obtain ⟨y161, hy161⟩ : ∃ y_ : List Int, y_ = (List.replicate ((l0.length : Int) : Int).toNat 0) := ⟨_, rfl⟩
    replace H : (nat_Sub.l0 k l0 l1 y161 0 (y161.length : Int) 0) = some (r1, r2) := by first | (rw [hy161]; with_reducible exact H) | (have H2_ := (Option.bind_some _ _).symm.trans H; rw [hy161]; with_reducible exact H2_) | (have H2_ := (Option.bind_some _ _).symm.trans H; with_reducible exact H2_) | with_reducible exact H | (rw [hy161]; exact H) | exact H
    have Ny161 := Aside0.mk hy161
    clear hy161
    have H' := Aside0.mk H
    clear H
    go_enter Try.func90, Try.ntmps90
    go_wp2_with (first | ((with_reducible refine gate_callee (f := 78) rfl ?_); refine Short.goesS_ (some 12) Try.func78 #[.slice A0 l0.length c0, .slice A1 l1.length c1] ?_; (with_reducible refine (nat_Compare.calls k _ _ l0 _ _ l1 t160 _ HR0.out HC0.out HR1.out HC1.out A3.out).mono ?_); rintro e w8 ⟨rfl, hb⟩; refine ⟨_, rfl, ?_⟩; replace HB := Aside0.mk (below_step (by repeat (first | (with_reducible first | exact HB.out | apply below_alloc | apply pw_below_drewN | apply below_drew1) | exact HB.out)) hb); (try clear hb)) | ((with_reducible refine gate_dst (N := 16) rfl ?_); refine Kd.R_make (Kd.int .u32) _ 92 rfl (N := 16) rfl 30 _ _ rfl (l0.length : Int) rfl rfl Try.underlying30 (.int .u32 0) 4 info92 rfl (by decide) (by omega) 0 (ok := fun _ => True) (okp := fun _ => True) rfl (fun _ hk => hk) trivial (of_decide_eq_true (by first | (with_reducible assumption) | assumption)) (Nat.le_trans (Nat.mul_le_mul_right _ (of_decide_eq_true (by first | (with_reducible assumption) | assumption) : (l0.length : Int).toNat ≤ 70368744177664)) (by omega)) (Below.refl _ _) (Nat.le_refl _) ?_; intro v162 w9 ho10 hb hg_ hnew_; clear hg_ hnew_; (first | rw [← Ny161.out] at ho10 | (simp only [Int.reduceToNat] at ho10; rw [← Ny161.out] at ho10)); have HO163 := Aside0.mk (Kd.R_lower ho10 (below_size (by repeat (first | (with_reducible first | exact HB.out | apply below_alloc | apply pw_below_drewN | apply below_drew1) | exact HB.out)))); replace HB := Aside0.mk (below_step (by repeat (first | (with_reducible first | exact HB.out | apply below_alloc | apply pw_below_drewN | apply below_drew1) | exact HB.out)) hb); clear hb ho10; obtain ⟨Ao11, co11, eo11⟩ := Kd.R_slice HO163.out; subst eo11))
    go_loopg [7, 19] k (fun kq v7 v19 w' => ∃ (x6_1 : List Int) (x7_1 : Int) (x19_1 : Int), v7 = .int .u64 x7_1 ∧ v19 = .int .i64 x19_1 ∧ Aside0 (nat_Sub.l0 kq l0 l1 x6_1 x7_1 (y161.length : Int) x19_1 = some (r1, r2)) ∧ Aside0 (kq ≤ k) ∧ Aside0 (Kd.R (Kd.int .u32) 92 w' w.heap.size (fun _ => True) (.slice Ao11 y161.length co11) x6_1) ∧ Aside0 (Below w.heap.size w w'))
    case atStart => exact ⟨(y161), (0), (0), (by first | rfl | (simp; done) | (simp [*]; done)), (by first | rfl | (simp; done) | (simp [*]; done)), H', ⟨Nat.le_refl _⟩, ⟨by (with_reducible repeat (first | apply Kd.R_alloc | apply Kd.R_drewN | apply Kd.R_drew)); exact HO163.out⟩, ⟨by repeat (first | (with_reducible first | exact HB.out | apply below_alloc | apply pw_below_drewN | apply below_drew1) | exact HB.out)⟩⟩
    case round =>
     clear H'
     try clear c1
     try clear p2
     try clear c4
     try clear c4b0
     try clear c6
     try clear c6b0
     try clear c6b1
     try clear c7
     try clear c7b0
     try clear c7b1
     try clear c9
     obtain ⟨x6_1, x7_1, x19_1, rfl, rfl, HA, HK1, HO_6, HB⟩ := hrel
     have hl6_1 := (Kd.R_reads' HO_6.out).1
     rw [hl6_1] at HO_6
     (try simp only [hl6_1])
     cases gk with
     | zero => exact absurd HA.out (by simp [nat_Sub.l0])
     | succ k1 =>
      have H := HA.out
      clear HA
      simp only [nat_Sub.l0] at H
      by_cases c12 : x19_1 < (y161.length : Int)
      ·rw [if_pos c12] at H
       have c12b0 : decide (x19_1 < (y161.length : Int)) = true := decide_eq_true c12
       (try (have c12z0 : decide (x19_1 < (x6_1.length : Int)) = true := by rw [← hl6_1]; exact c12b0))
       clear c12
       replace H := Option.bind_eq_some_iff.mp H
       obtain ⟨t164, A130, H⟩ := H
       try dsimp only at H
       have A13 := Aside0.mk A130
       clear A130
       replace H := Option.bind_eq_some_iff.mp H
       obtain ⟨t165, A140, H⟩ := H
       try dsimp only at H
       have A14 := Aside0.mk A140
       clear A140
       by_cases c15 : 0 ≤ x19_1
       ·rw [if_pos c15] at H
        have c15b0 : decide (0 ≤ x19_1) = true := decide_eq_true c15
        clear c15
        by_cases c16 : x19_1 < (x6_1.length : Int)
        ·rw [if_pos c16] at H
         have c16b0 : decide (x19_1 < (x6_1.length : Int)) = true := decide_eq_true c16
         clear c16
         obtain ⟨y166, hy166⟩ : ∃ y_ : List Int, y_ = (x6_1.set (x19_1 : Int).toNat ((IntKind.u64.wrap ((IntKind.u64.wrap (t164 - t165)) - x7_1)) % 4294967296)) := ⟨_, rfl⟩
         replace H : (nat_Sub.l0 k1 l0 l1 y166 ((IntKind.u64.wrap ((IntKind.u64.wrap (t164 - t165)) - x7_1)) / 9223372036854775808) (y161.length : Int) (wrap64 (x19_1 + 1))) = some (r1, r2) := by first | (rw [hy166]; with_reducible exact H) | (have H2_ := (Option.bind_some _ _).symm.trans H; rw [hy166]; with_reducible exact H2_) | (have H2_ := (Option.bind_some _ _).symm.trans H; with_reducible exact H2_) | with_reducible exact H | (rw [hy166]; exact H) | exact H
         have Ny166 := Aside0.mk hy166
         clear hy166
         have H' := Aside0.mk H
         clear H
         go_wp2_with (first | ((with_reducible refine gate_callee (f := 102) rfl ?_); refine Short.goesS_ (some 24) Try.func102 #[.slice A0 l0.length c0, .int .i64 x19_1] ?_; (with_reducible refine (nat_at.calls _ _ l0 x19_1 t164 _ (Kd.C_below HR0.out HB.out) HC0.out A13.out).mono ?_); rintro e w' ⟨rfl, ⟨nd, rfl⟩⟩; refine ⟨_, rfl, ?_⟩; (try (rw [drewN_self wr]; generalize hq_ : World.drewN wr _ = wr; have n0_ : Aside0 (Kd.R (Kd.int .u32) 92 wr w.heap.size (fun _ => True) (.slice Ao11 x6_1.length co11) x6_1) := ⟨by rw [← hq_]; exact HO_6.out⟩; have n1_ : Aside0 (Below w.heap.size w wr) := ⟨by rw [← hq_]; exact (by repeat (first | (with_reducible first | exact HB.out | apply below_alloc | apply pw_below_drewN | apply below_drew1) | exact HB.out))⟩; clear HO_6 HB hq_; have HO_6 := n0_; have HB := n1_; clear n0_ n1_))) | ((with_reducible refine gate_callee (f := 102) rfl ?_); refine Short.goesS_ (some 27) Try.func102 #[.slice A1 l1.length c1, .int .i64 x19_1] ?_; (with_reducible refine (nat_at.calls _ _ l1 x19_1 t165 _ (Kd.C_below HR1.out HB.out) HC1.out A14.out).mono ?_); rintro e w' ⟨rfl, ⟨nd, rfl⟩⟩; refine ⟨_, rfl, ?_⟩; (try (rw [drewN_self wr]; generalize hq_ : World.drewN wr _ = wr; have n0_ : Aside0 (Kd.R (Kd.int .u32) 92 wr w.heap.size (fun _ => True) (.slice Ao11 x6_1.length co11) x6_1) := ⟨by rw [← hq_]; exact HO_6.out⟩; have n1_ : Aside0 (Below w.heap.size w wr) := ⟨by rw [← hq_]; exact (by repeat (first | (with_reducible first | exact HB.out | apply below_alloc | apply pw_below_drewN | apply below_drew1) | exact HB.out))⟩; clear HO_6 HB hq_; have HO_6 := n0_; have HB := n1_; clear n0_ n1_)); have p17 : 0 ≤ (x19_1 : Int) := of_decide_eq_true (by first | (with_reducible assumption) | assumption); have q17 : (x19_1 : Int) < ((x6_1.length : Int) : Int) := of_decide_eq_true (by first | (with_reducible assumption) | assumption); obtain ⟨go17, co17, eo17, gb17, gl17, cl17, HG17⟩ := Kd.R_form HO_6.out (by omega); (first | cases eo17 | (injection eo17 with ea_ en_ ec_; (first | subst ea_ | (injection ea_ with ea_; subst ea_)); subst ec_; clear en_)); have GB17 := Aside0.mk gb17; have GG17 := Aside0.mk HG17; clear gb17 gl17 HG17; obtain ⟨hx17_0, hf17_0⟩ := Kd.R_celln 0 HO_6.out (x19_1 : Int) p17 q17; replace p17 := eq_true p17; replace q17 := eq_true q17; obtain ⟨hy18_, hz18_⟩ := Kd.R_celln 0 HO_6.out (x19_1 : Int) (of_decide_eq_true (by first | (with_reducible assumption) | assumption)) (of_decide_eq_true (by first | (with_reducible assumption) | assumption)); have HP18 := Kd.R_putg HO_6.out (x19_1 : Int) ((IntKind.u64.wrap ((IntKind.u64.wrap (t164 - t165)) - x7_1)) % 4294967296)) | ((with_reducible refine gate_store (t := 92) (p := 35) rfl ?_); refine store_event (t := 92) (p := 35) (v := ?vo_w19) (w1 := (wr.setCell ⟨go17, (x19_1 : Int).toNat, none⟩ (.int .u32 ((IntKind.u64.wrap ((IntKind.u64.wrap (t164 - t165)) - x7_1)) % 4294967296)))) ?hg ?ho ?hn ?hr ?_; (case ho => rfl); (case hg => rfl); (case hn => rfl); (case hr => first | (go_simp; done) | (go_simp; rfl)); intro w19 hw; have hg : wr.grownBy w19 (some go17) := (by rw [hw]; exact HP18.2); have hp_ : Kd.R (Kd.int .u32) 92 w19 w.heap.size (fun _ => True) (.slice (some ⟨go17, 0, none⟩) x6_1.length co11) y166 := (by rw [hw, Ny166.out]; exact HP18.1); clear HP18; replace HO_6 := Aside0.mk (hp_); replace HB := Aside0.mk ((by rw [hw]; exact below_set (HB.out) GB17.out : Below w.heap.size w w19)); clear hg hw hp_))
         (try simp only [← hl6_1])
         go_roundg k1
         case measure => have := HK1.out; omega
         case rel => exact ⟨(y166), ((IntKind.u64.wrap ((IntKind.u64.wrap (t164 - t165)) - x7_1)) / 9223372036854775808), (wrap64 (x19_1 + 1)), (by first | rfl | (simp; done) | (simp [*]; done)), (by first | rfl | (simp; done) | (simp [*]; done)), H', ⟨by have := HK1.out; omega⟩, ⟨by (try simp only [hl6_1]); (with_reducible repeat (first | apply Kd.R_alloc | apply Kd.R_drewN | apply Kd.R_drew)); exact HO_6.out⟩, ⟨by repeat (first | (with_reducible first | exact HB.out | apply below_alloc | apply pw_below_drewN | apply below_drew1) | exact HB.out)⟩⟩
        ·rw [if_neg c16] at H
         exact absurd H (by simp)
       ·rw [if_neg c15] at H
        exact absurd H (by simp)
      ·rw [if_neg c12] at H
       have c12b0 : decide (x19_1 < (y161.length : Int)) = false := decide_eq_false c12
       (try (have c12z0 : decide (x19_1 < (x6_1.length : Int)) = false := by rw [← hl6_1]; exact c12b0))
       clear c12
       replace H := Option.bind_eq_some_iff.mp H
       obtain ⟨t167, A200, H⟩ := H
       replace H : (some (t167, true)) = some (r1, r2) := H
       have A20 := Aside0.mk A200
       clear A200
       simp only [Option.some.injEq, Prod.mk.injEq] at H
       obtain ⟨rfl, rfl⟩ := H
       go_wp2_with (first | ((with_reducible refine gate_callee (f := 71) rfl ?_); refine Short.goesS_ (some 40) Try.func71 #[.slice Ao11 x6_1.length co11] ?_; (with_reducible refine (nat_trim.calls k1 _ _ x6_1 t167 _ ((Kd.R_reads' HO_6.out).2.2) ((Kd.R_reads' HO_6.out).2.1) A20.out).mono ?_); rintro e w21 ⟨v168, rfl, ho0, hb⟩; refine ⟨_, rfl, ?_⟩; have HO169 := Aside0.mk (Kd.R_lower (Kd.R_new' ho0 (Kd.R_lt HO_6.out)) (below_size (by repeat (first | (with_reducible first | exact HB.out | apply below_alloc | apply pw_below_drewN | apply below_drew1) | exact HB.out)))); replace HO_6 := Aside0.mk (Kd.R_elder' HO_6.out (Kd.R_base ho0) hb); replace HB := Aside0.mk (below_step (by repeat (first | (with_reducible first | exact HB.out | apply below_alloc | apply pw_below_drewN | apply below_drew1) | exact HB.out)) hb); (try clear hb); (try clear ho0)))
       go_ret2
       exact ⟨_, by rfl, by (with_reducible repeat (first | apply Kd.R_alloc | apply Kd.R_drewN | apply Kd.R_drew)); exact Kd.R_mono HO169.out (fun _ hk => trivial), by repeat (first | (with_reducible first | exact HB.out | apply below_alloc | apply pw_below_drewN | apply below_drew1) | exact HB.out)⟩
   ·rw [if_neg c7] at H
    exact absurd H (by simp)
  ·rw [if_neg c6] at H
   exact absurd H (by simp)

theorem nat_Sub.ev_l {a b : List Int} (ha : Num.Ws a) (hb : Num.Ws b) (hba : Num.nv b ≤ Num.nv a) (hL : a.length < 35184372088832) (d : Nat) : ∀ (i : Nat) (x : List Int) (c : Nat), i + d = a.length → x.length = a.length → Num.Ws x → c ≤ 1 →
  Num.nv (a.take i) + 2 ^ (32 * i) * c = Num.nv (x.take i) + Num.nv (b.take i) → Ev (fun k => nat_Sub.l0 k a b x (c : Int) (a.length : Int) (i : Int)) (Num.nd (Num.nv a - Num.nv b), true) := by
 induction d with
 | zero =>
  intro i x c hi hx hW hc hv
  obtain rfl : i = a.length := by omega
  have hva := Num.nv_lt ha
  have hvx := Num.nv_lt hW
  rw [hx] at hvx
  rw [List.take_of_length_le (Nat.le_refl _), List.take_of_length_le (by omega), Num.nv_take_of_lt (by omega)] at hv
  have hv2 : Num.nv x = Num.nv a - Num.nv b := by
   rcases Nat.eq_zero_or_pos c with h | h
   ·subst h; omega
   ·obtain rfl : c = 1 := by omega
    omega
  refine Ev.step (f := fun k => (nat_trim.f k x).bind fun t => some (t, true)) (fun k => ?_) ?_
  ·simp only [nat_Sub.l0]
   rw [if_neg (by omega)]
  ·rw [← hv2]
   exact Ev.bind (nat_trim.ev hW (by omega)) (Ev.now _)
 | succ d ih =>
  intro i x c hi hx hW hc hv
  have hga := ha.getD i
  have hgb := hb.getD i
  obtain ⟨p, hp⟩ : ∃ p : Nat, (p : Int) = a.getD i 0 := ⟨(a.getD i 0).toNat, by omega⟩
  obtain ⟨q, hq⟩ : ∃ q : Nat, (q : Int) = b.getD i 0 := ⟨(b.getD i 0).toNat, by omega⟩
  have wu : ∀ n : Int, IntKind.u64.wrap n = n % 18446744073709551616 := fun n => by simp [IntKind.wrap, IntKind.bits, IntKind.signed]
  obtain ⟨o, c', ho, ho1, hc1, hc2, hs⟩ : ∃ o c' : Nat, (IntKind.u64.wrap (IntKind.u64.wrap ((p : Int) - (q : Int)) - (c : Int))) % 4294967296 = (o : Int) ∧ o < 4294967296 ∧ (IntKind.u64.wrap (IntKind.u64.wrap ((p : Int) - (q : Int)) - (c : Int))) / 9223372036854775808 = (c' : Int) ∧ c' ≤ 1 ∧ p + 4294967296 * c' = o + q + c := by
   rw [wu, wu]
   by_cases h : q + c ≤ p
   ·exact ⟨p - q - c, 0, by omega, by omega, by omega, by omega, by omega⟩
   ·exact ⟨4294967296 + p - q - c, 1, by omega, by omega, by omega, by omega, by omega⟩
  have c1 : (i : Int) < (a.length : Int) := by omega
  have c2 : 0 ≤ (i : Int) := by omega
  have c3 : (i : Int) < (x.length : Int) := by omega
  have hoc := Aside0.mk (And.intro ho hc1)
  clear ho hc1 wu
  refine Ev.step (f := fun k => nat_Sub.l0 k a b (x.set i (o : Int)) (c' : Int) (a.length : Int) ((i + 1 : Nat) : Int)) (fun k => ?_) ?_
  ·have e5 : wrap64 ((i : Int) + 1) = ((i + 1 : Nat) : Int) := by rw [nat_trim.w64 (by omega) (by omega)]; omega
   obtain ⟨ho, hc1⟩ := hoc.out
   simp only [nat_Sub.l0]
   rw [if_pos c1, nat_at.sem ha, nat_at.sem hb]
   simp only [Option.bind_some]
   rw [if_pos c2, if_pos c3, ← hp, ← hq, ho, hc1, e5]
   simp only [Int.toNat_natCast]
  ·refine ih (i + 1) _ _ (by omega) (by rw [List.length_set]; exact hx) (hW.set i (by omega) (by omega)) (by omega) ?_
   rw [Num.nv_set_take (by omega), Num.nv_take_succ, Num.nv_take_succ, Num.pow_succ32, Int.toNat_natCast, ← hp, ← hq, Int.toNat_natCast, Int.toNat_natCast]
   have h2 : 2 ^ (32 * i) * (p + 4294967296 * c') = 2 ^ (32 * i) * (o + q + c) := by rw [hs]
   rw [Nat.mul_add, Nat.mul_add, Nat.mul_add, ← Nat.mul_assoc] at h2
   omega
theorem nat_Sub.ev {a b : List Int} (ha : Num.okw a = true) (hb : Num.okw b = true) : Ev (fun k => nat_Sub.f k a b) (if Num.nv a < Num.nv b then ([], false) else (Num.nd (Num.nv a - Num.nv b), true)) := by
 obtain ⟨la, wa⟩ := (Num.okw_iff a).1 ha
 obtain ⟨lb, wb⟩ := (Num.okw_iff b).1 hb
 have hc : ∀ k, nat_Compare.f k a b = some (Num.cmp (Num.nv a) (Num.nv b)) := fun k => by unfold nat_Compare.f; rw [if_pos ha, if_pos hb]
 by_cases h : Num.nv a < Num.nv b
 ·rw [if_pos h]
  refine ⟨0, fun k _ => ?_⟩
  show nat_Sub.f k a b = _
  unfold nat_Sub.f
  rw [hc, Num.cmp_lt h]
  rfl
 ·rw [if_neg h]
  have := nat_Sub.ev_l wa wb (by omega) (by omega) a.length 0 (List.replicate a.length 0) 0 (by omega) (by simp) (Num.Ws.replicate _) (by omega) (by simp [Num.nv])
  refine Ev.congr (fun k => ?_) this
  have h0 : ¬ Num.cmp (Num.nv a) (Num.nv b) < 0 := by unfold Num.cmp; rw [if_neg h]; split <;> omega
  unfold nat_Sub.f
  rw [hc]
  simp only [Option.bind_some]
  rw [if_neg h0, if_pos (show (0 : Int) ≤ (a.length : Int) from by omega), Int.toNat_natCast, if_pos (show a.length ≤ 70368744177664 from by omega)]
  simp only [List.length_replicate]
  rfl
set_option synthInstance.checkSynthOrder false in
open Lin in
instance nat_Sub.t {k : Nat} {l0 : List Int} {l1 : List Int} {r : List Int × Bool} [h : Ans (nat_Sub.f k l0 l1) r] : Tl Try.prog 90 [.one (.row l0), .one (.row l1)] (.tup [.one (.row r.1), .one (.val (.bool r.2))]) := ⟨Tells.of Try.func90 fun out w vs ho hl hv => by
 obtain ⟨u0, u1, rfl, h0, h1⟩ := args2 hl hv
 obtain ⟨A0, c0, rfl, hc0, hr0, hb0⟩ := h0
 obtain ⟨A1, c1, rfl, hc1, hr1, hb1⟩ := h1
 refine (nat_Sub.calls k A0 c0 l0 A1 c1 l1 _ _ w hr0 hc0 hr1 hc1 h.out).mono ?_
 rintro e w' ⟨v0_, rfl, gv0_, hb⟩
 exact ⟨_, rfl, tup2 (row_R gv0_ ho) (⟨rfl, rfl⟩), hb⟩⟩
def nat_digit.l0 : Nat → List Int → List Int → Int → Int → Option (Int × List Int)
 | 0, _, _, _, _ => none
 | k + 1, x0, x1, x6, x7 => if x7 ≥ 0 then ((nat_Shift.f k x1 x7).bind fun t170 => ((nat_Sub.f k x0 t170).bind fun bt173 => (if bt173.2 = true then (if 0 ≤ x7 then (nat_digit.l0 k bt173.1 x1 (Go.bits .or .u32 x6 (shl .u32 1 x7)) (wrap64 (x7 - 1))) else (none)) else (nat_digit.l0 k x0 x1 x6 (wrap64 (x7 - 1)))))) else (some (x6, x0))
def nat_digit.f (k : Nat) (l0 : List Int) (l1 : List Int) : Option (Int × List Int) := nat_digit.l0 k l0 l1 0 31
set_option maxHeartbeats 8000000 in
set_option maxRecDepth 100000 in
theorem nat_digit.calls (k : Nat) (P0_ : Nat → Prop) (A0 : Option Addr) (c0 : Nat) (l0 : List Int) (A1 : Option Addr) (c1 : Nat) (l1 : List Int) (r1 : Int) (r2 : List Int) (w : World) (hs0 : Kd.V (Kd.int .u32) 92 w w.heap.size (fun k_ => P0_ k_) (.slice A0 l0.length c0) l0) (hr1 : Kd.C (Kd.int .u32) w A1 l1.length l1) (hc1 : l1.length ≤ c1) (h : nat_digit.f k l0 l1 = some (r1, r2)) :
  Calls Try.prog 98 #[.slice A0 l0.length c0, .slice A1 l1.length c1] w fun e w' => ∃ v1_ : Value, e = .returned (.tuple #[.int .u32 r1, v1_]) ∧ Kd.V (Kd.int .u32) 92 w' w.heap.size (fun k_ => (P0_ k_ ∨ w.heap.size ≤ k_)) v1_ r2 ∧ Below w.heap.size w w' := by
 have HO0 := Aside0.mk (show Kd.V (Kd.int .u32) 92 w w.heap.size (fun k_ => (P0_ k_ ∨ w.heap.size ≤ k_)) (.slice A0 l0.length c0) l0 from Kd.V_mono hs0 (fun k_ hk => .inl hk))
 have HR1 := Aside0.mk hr1
 have HC1 := Aside0.mk hc1
 clear hr1 hc1
 have HB := Aside0.mk (Below.refl w.heap.size w)
 have H : (nat_digit.l0 k l0 l1 0 31) = some (r1, r2) := h
 clear h
 have H' := Aside0.mk H
 clear H
 go_enter Try.func98, Try.ntmps98
 go_wp2
 go_loopg [0, 6, 7] k (fun kq v0 v6 v7 w' => ∃ (x0_1 : List Int) (x6_1 : Int) (x7_1 : Int), v6 = .int .u32 x6_1 ∧ v7 = .int .i64 x7_1 ∧ Aside0 (nat_digit.l0 kq x0_1 l1 x6_1 x7_1 = some (r1, r2)) ∧ Aside0 (kq ≤ k) ∧ Aside0 (Kd.V (Kd.int .u32) 92 w' w.heap.size (fun k_ => (P0_ k_ ∨ w.heap.size ≤ k_)) v0 x0_1) ∧ Aside0 (Below w.heap.size w w'))
 case atStart => exact ⟨(l0), (0), (31), (by first | rfl | (simp; done) | (simp [*]; done)), (by first | rfl | (simp; done) | (simp [*]; done)), H', ⟨Nat.le_refl _⟩, ⟨by (with_reducible repeat (first | apply Kd.V_alloc | apply Kd.V_drewN | apply Kd.V_drew)); exact HO0.out⟩, ⟨by repeat (first | (with_reducible first | exact HB.out | apply below_alloc | apply pw_below_drewN | apply below_drew1) | exact HB.out)⟩⟩
 case round =>
  clear H'
  try clear c1
  try clear p2
  obtain ⟨x0_1, x6_1, x7_1, rfl, rfl, HA, HK1, HO_0, HB⟩ := hrel
  cases gk with
  | zero => exact absurd HA.out (by simp [nat_digit.l0])
  | succ k1 =>
   have H := HA.out
   clear HA
   simp only [nat_digit.l0] at H
   by_cases c3 : x7_1 ≥ 0
   ·rw [if_pos c3] at H
    have c3b0 : decide (0 ≤ x7_1) = true := decide_eq_true c3
    clear c3
    replace H := Option.bind_eq_some_iff.mp H
    obtain ⟨t170, A40, H⟩ := H
    try dsimp only at H
    have A4 := Aside0.mk A40
    clear A40
    replace H := Option.bind_eq_some_iff.mp H
    obtain ⟨⟨t173, t174⟩, A50, H⟩ := H
    try dsimp only at H
    have A5 := Aside0.mk A50
    clear A50
    by_cases c6 : t174 = true
    ·subst c6
     have H1 : (if 0 ≤ x7_1 then (nat_digit.l0 k1 t173 l1 (Go.bits .or .u32 x6_1 (shl .u32 1 x7_1)) (wrap64 (x7_1 - 1))) else (none)) = some (r1, r2) := by rw [if_pos rfl] at H; exact H
     clear H
     have H := H1
     clear H1
     by_cases c7 : 0 ≤ x7_1
     ·rw [if_pos c7] at H
      have c7b0 := eq_true c7
      have c7b1 : decide (0 ≤ x7_1) = true := decide_eq_true c7
      clear c7
      obtain ⟨ji8, hji8⟩ : ∃ j_ : Int, (shl .u32 1 x7_1) = j_ := ⟨_, rfl⟩
      replace H : (nat_digit.l0 k1 t173 l1 (Go.bits .or .u32 x6_1 (ji8)) (wrap64 (x7_1 - 1))) = some (r1, r2) := by first | (rw [hji8] at H; exact H) | (simp only [hji8] at H ⊢; exact H)
      (try rw [hji8] at A4)
      (try rw [hji8] at A5)
      have hji8_ : (IntKind.u32.wrap (1 * 2 ^ min x7_1.toNat 32)) = ji8 := hji8
      have hji8z : x7_1 ≤ 32 → (IntKind.u32.wrap (1 * 2 ^ x7_1.toNat)) = ji8 := shl_small hji8
      have hji8u : (IntKind.u32.wrap (2 ^ min x7_1.toNat 32)) = ji8 := by have h_ := hji8_; rw [Int.one_mul] at h_; exact h_
      have hji8v : x7_1 ≤ 32 → (IntKind.u32.wrap (2 ^ x7_1.toNat)) = ji8 := fun hle_ => by have h_ := hji8z hle_; rw [Int.one_mul] at h_; exact h_
      have H' := Aside0.mk H
      clear H
      go_wp2_with (first | ((with_reducible refine gate_callee (f := 44) rfl ?_); refine Short.goesS_ (some 18) Try.func44 #[.slice A1 l1.length c1, .int .i64 x7_1] ?_; (with_reducible refine (nat_Shift.calls k1 _ _ l1 x7_1 t170 _ (Kd.C_below HR1.out HB.out) HC1.out A4.out).mono ?_); rintro e w9 ⟨v171, rfl, ho0, hb⟩; refine ⟨_, rfl, ?_⟩; replace HO_0 := Aside0.mk (Kd.V_elder' HO_0.out (Kd.R_base ho0) hb); have HO172 := Aside0.mk (Kd.R_lower (Kd.R_newM (M := fun k_ => (w.heap.size ≤ k_)) ho0 (below_size (by repeat (first | (with_reducible first | exact HB.out | apply below_alloc | apply pw_below_drewN | apply below_drew1) | exact HB.out))) (fun k_ h_ => h_)) (below_size (by repeat (first | (with_reducible first | exact HB.out | apply below_alloc | apply pw_below_drewN | apply below_drew1) | exact HB.out)))); replace HB := Aside0.mk (below_step (by repeat (first | (with_reducible first | exact HB.out | apply below_alloc | apply pw_below_drewN | apply below_drew1) | exact HB.out)) hb); (try clear hb); (try clear ho0); obtain ⟨Ao10, co10, eo10⟩ := Kd.V_slice HO_0.out; subst eo10; obtain ⟨Ao11, co11, eo11⟩ := Kd.R_slice HO172.out; subst eo11) | ((with_reducible refine gate_callee (f := 90) rfl ?_); refine Short.goesS_ (some 19) Try.func90 #[.slice Ao10 x0_1.length co10, .slice Ao11 t170.length co11] ?_; (with_reducible refine (nat_Sub.calls k1 _ _ x0_1 _ _ t170 t173 true _ ((Kd.V_reads' HO_0.out).2.2) ((Kd.V_reads' HO_0.out).2.1) ((Kd.R_reads' HO172.out).2.2) ((Kd.R_reads' HO172.out).2.1) A5.out).mono ?_); rintro e w12 ⟨v175, rfl, ho0, hb⟩; refine ⟨_, rfl, ?_⟩; replace HO_0 := Aside0.mk (Kd.V_elder' HO_0.out (Kd.R_base ho0) hb); have HO176 := Aside0.mk (Kd.R_lower (Kd.R_new' (Kd.R_newM (M := fun k_ => (w.heap.size ≤ k_)) ho0 (below_size (by repeat (first | (with_reducible first | exact HB.out | apply below_alloc | apply pw_below_drewN | apply below_drew1) | exact HB.out))) (fun k_ h_ => h_)) (Kd.R_lt HO172.out)) (below_size (by repeat (first | (with_reducible first | exact HB.out | apply below_alloc | apply pw_below_drewN | apply below_drew1) | exact HB.out)))); replace HO172 := Aside0.mk (Kd.R_elder' HO172.out (Kd.R_base ho0) hb); replace HB := Aside0.mk (below_step (by repeat (first | (with_reducible first | exact HB.out | apply below_alloc | apply pw_below_drewN | apply below_drew1) | exact HB.out)) hb); (try clear hb); (try clear ho0)))
      go_roundg k1
      case measure => have := HK1.out; omega
      case rel => exact ⟨(t173), (Go.bits .or .u32 x6_1 (ji8)), (wrap64 (x7_1 - 1)), (by first | rfl | (simp; done) | (simp only [← hji8] <;> (first | rfl | simp)) | (simp [*]; done)), (by first | rfl | (simp; done) | (simp [*]; done)), H', ⟨by have := HK1.out; omega⟩, ⟨Kd.V_mono (Kd.R_V (by (with_reducible repeat (first | apply Kd.R_alloc | apply Kd.R_drewN | apply Kd.R_drew)); exact Kd.R_mono HO176.out (fun _ hk => hk.1.1))) (fun k_ hk => by first | exact ⟨(.inr (hk.1)), hk.2⟩ | exact (.inr (hk)))⟩, ⟨by repeat (first | (with_reducible first | exact HB.out | apply below_alloc | apply pw_below_drewN | apply below_drew1) | exact HB.out)⟩⟩
     ·rw [if_neg c7] at H
      exact absurd H (by simp)
    ·replace c6 := Bool.eq_false_iff.mpr c6
     subst c6
     have H1 : (nat_digit.l0 k1 x0_1 l1 x6_1 (wrap64 (x7_1 - 1))) = some (r1, r2) := by rw [if_neg (show ¬ (false = true) by decide)] at H; exact H
     clear H
     have H := H1
     clear H1
     have H' := Aside0.mk H
     clear H
     go_wp2_with (first | ((with_reducible refine gate_callee (f := 44) rfl ?_); refine Short.goesS_ (some 18) Try.func44 #[.slice A1 l1.length c1, .int .i64 x7_1] ?_; (with_reducible refine (nat_Shift.calls k1 _ _ l1 x7_1 t170 _ (Kd.C_below HR1.out HB.out) HC1.out A4.out).mono ?_); rintro e w13 ⟨v171, rfl, ho0, hb⟩; refine ⟨_, rfl, ?_⟩; replace HO_0 := Aside0.mk (Kd.V_elder' HO_0.out (Kd.R_base ho0) hb); have HO172 := Aside0.mk (Kd.R_lower (Kd.R_newM (M := fun k_ => (w.heap.size ≤ k_)) ho0 (below_size (by repeat (first | (with_reducible first | exact HB.out | apply below_alloc | apply pw_below_drewN | apply below_drew1) | exact HB.out))) (fun k_ h_ => h_)) (below_size (by repeat (first | (with_reducible first | exact HB.out | apply below_alloc | apply pw_below_drewN | apply below_drew1) | exact HB.out)))); replace HB := Aside0.mk (below_step (by repeat (first | (with_reducible first | exact HB.out | apply below_alloc | apply pw_below_drewN | apply below_drew1) | exact HB.out)) hb); (try clear hb); (try clear ho0); obtain ⟨Ao14, co14, eo14⟩ := Kd.V_slice HO_0.out; subst eo14; obtain ⟨Ao15, co15, eo15⟩ := Kd.R_slice HO172.out; subst eo15) | ((with_reducible refine gate_callee (f := 90) rfl ?_); refine Short.goesS_ (some 19) Try.func90 #[.slice Ao14 x0_1.length co14, .slice Ao15 t170.length co15] ?_; (with_reducible refine (nat_Sub.calls k1 _ _ x0_1 _ _ t170 t173 false _ ((Kd.V_reads' HO_0.out).2.2) ((Kd.V_reads' HO_0.out).2.1) ((Kd.R_reads' HO172.out).2.2) ((Kd.R_reads' HO172.out).2.1) A5.out).mono ?_); rintro e w16 ⟨v175, rfl, ho0, hb⟩; refine ⟨_, rfl, ?_⟩; replace HO_0 := Aside0.mk (Kd.V_elder' HO_0.out (Kd.R_base ho0) hb); have HO176 := Aside0.mk (Kd.R_lower (Kd.R_new' (Kd.R_newM (M := fun k_ => (w.heap.size ≤ k_)) ho0 (below_size (by repeat (first | (with_reducible first | exact HB.out | apply below_alloc | apply pw_below_drewN | apply below_drew1) | exact HB.out))) (fun k_ h_ => h_)) (Kd.R_lt HO172.out)) (below_size (by repeat (first | (with_reducible first | exact HB.out | apply below_alloc | apply pw_below_drewN | apply below_drew1) | exact HB.out)))); replace HO172 := Aside0.mk (Kd.R_elder' HO172.out (Kd.R_base ho0) hb); replace HB := Aside0.mk (below_step (by repeat (first | (with_reducible first | exact HB.out | apply below_alloc | apply pw_below_drewN | apply below_drew1) | exact HB.out)) hb); (try clear hb); (try clear ho0)))
     go_roundg k1
     case measure => have := HK1.out; omega
     case rel => exact ⟨(x0_1), (x6_1), (wrap64 (x7_1 - 1)), (by first | rfl | (simp; done) | (simp [*]; done)), (by first | rfl | (simp; done) | (simp [*]; done)), H', ⟨by have := HK1.out; omega⟩, ⟨by (with_reducible repeat (first | apply Kd.V_alloc | apply Kd.V_drewN | apply Kd.V_drew)); exact Kd.V_mono HO_0.out (fun _ hk => hk.1.1)⟩, ⟨by repeat (first | (with_reducible first | exact HB.out | apply below_alloc | apply pw_below_drewN | apply below_drew1) | exact HB.out)⟩⟩
   ·rw [if_neg c3] at H
    have c3b0 : decide (0 ≤ x7_1) = false := decide_eq_false c3
    clear c3
    simp only [Option.some.injEq, Prod.mk.injEq] at H
    obtain ⟨rfl, rfl⟩ := H
    go_wp2
    go_ret2
    exact ⟨_, by rfl, by (with_reducible repeat (first | apply Kd.V_alloc | apply Kd.V_drewN | apply Kd.V_drew)); exact HO_0.out, by repeat (first | (with_reducible first | exact HB.out | apply below_alloc | apply pw_below_drewN | apply below_drew1) | exact HB.out)⟩

theorem nat_digit.or_sum {r x y : Nat} (hr : r ≤ 32) (hx : x < 2 ^ r) (hy : y % 2 ^ r = 0) (hy1 : y < 4294967296) : Go.bits .or .u32 (y : Int) (x : Int) = ((y + x : Nat) : Int) := by
 have hc : Go.bits .or .u32 (y : Int) (x : Int) = Go.bits .or .u32 (x : Int) (y : Int) := by simp only [bits, BitVec.or_comm]
 rw [hc, nat_Shift.or_sum hr hx hy hy1, Nat.add_comm]
theorem nat_digit.ev_l {b : List Int} (hb : Num.Ws b) (hlb : b.length < 549755813890) (h0 : Num.nv b ≠ 0) (m : Nat) : ∀ (A Q : Nat), m ≤ 32 → A < 2 ^ m * Num.nv b → Q % 2 ^ m = 0 → Q < 4294967296 →
  Ev (fun k => nat_digit.l0 k (Num.nd A) b (Q : Int) ((m : Int) - 1)) (((Q + A / Num.nv b : Nat) : Int), Num.nd (A % Num.nv b)) := by
 have hB := Num.nv_lt hb
 obtain ⟨B, hBe⟩ : ∃ B, B = Num.nv b := ⟨_, rfl⟩
 rw [← hBe] at hB h0 ⊢
 have hokb : Num.okw b = true := Num.okw_of (by omega) hb
 have hok : ∀ n : Nat, n < 2 ^ 32 * B → Num.okw (Num.nd n) = true := by
  intro n hn
  refine Num.okw_of ?_ (Num.Ws_nd n)
  have h1 : n < 2 ^ (32 * (b.length + 1)) := by
   rw [Num.pow_succ32]
   have := Nat.mul_lt_mul_of_pos_left hB (show 0 < 2 ^ 32 from by decide)
   rw [Nat.mul_comm (2 ^ (32 * b.length))]
   exact Nat.lt_trans hn this
  have := Num.nd_length_le h1
  omega
 induction m with
 | zero =>
  intro A Q hm hA hQ hQ1
  rw [Nat.pow_zero, Nat.one_mul] at hA
  rw [Nat.div_eq_of_lt hA, Nat.mod_eq_of_lt hA]
  refine Ev.step (f := fun _ => some ((Q : Int), Num.nd A)) (fun k => ?_) (Ev.now _)
  simp only [nat_digit.l0]
  rw [if_neg (by omega)]
 | succ m ih =>
  intro A Q hm hA hQ hQ1
  have hp : 2 ^ m ≤ 2 ^ 31 := Nat.pow_le_pow_right (by omega) (by omega)
  have hm31 : m ≤ 31 := by omega
  have hpB : 2 ^ m * B ≤ 2 ^ 31 * B := Nat.mul_le_mul_right _ hp
  have hA32 : A < 2 ^ 32 * B := by
   have : 2 ^ (m + 1) * B ≤ 2 ^ 32 * B := Nat.mul_le_mul_right _ (Nat.pow_le_pow_right (by omega) hm)
   omega
  have hS32 : 2 ^ m * B < 2 ^ 32 * B := by
   have : 0 < B := by omega
   omega
  have hsh := nat_Shift.ev hokb (show m ≤ 65536 from by omega)
  rw [← hBe] at hsh
  have hsub := nat_Sub.ev (hok A hA32) (hok _ hS32)
  rw [Num.nv_nd, Num.nv_nd] at hsub
  have hdvd : 2 ^ m ∣ Q := Nat.dvd_trans (Nat.pow_dvd_pow 2 (Nat.le_succ m)) (Nat.dvd_of_mod_eq_zero hQ)
  have hQm : Q % 2 ^ m = 0 := Nat.mod_eq_zero_of_dvd hdvd
  have c1 : ((m + 1 : Nat) : Int) - 1 ≥ 0 := by omega
  have e1 : ((m + 1 : Nat) : Int) - 1 = (m : Int) := by omega
  have e2 : wrap64 ((m : Int) - 1) = (m : Int) - 1 := nat_trim.w64 (by omega) (by omega)
  refine Ev.step (f := fun k => (nat_Shift.f k b (m : Int)).bind fun t157 => ((nat_Sub.f k (Num.nd A) t157).bind fun bt160 => (if bt160.2 = true then (if 0 ≤ (m : Int) then (nat_digit.l0 k bt160.1 b (Go.bits .or .u32 (Q : Int) (shl .u32 1 (m : Int))) (wrap64 ((m : Int) - 1))) else (none)) else (nat_digit.l0 k (Num.nd A) b (Q : Int) (wrap64 ((m : Int) - 1)))))) (fun k => ?_) ?_
  ·simp only [nat_digit.l0]
   rw [if_pos c1, e1]
  ·refine Ev.bind hsh (Ev.bind hsub ?_)
   by_cases hlt : A < 2 ^ m * B
   ·rw [if_pos hlt]
    refine Ev.congr (fun k => ?_) (ih A Q (by omega) hlt hQm hQ1)
    simp only [Bool.false_eq_true, if_false]
    rw [e2]
   ·rw [if_neg hlt]
    have hA' : A - 2 ^ m * B < 2 ^ m * B := by
     rw [Nat.pow_succ, Nat.mul_right_comm] at hA
     omega
    have hQ2 : Q + 2 ^ m < 4294967296 := by
     obtain ⟨u, hu⟩ := Nat.dvd_of_mod_eq_zero hQ
     obtain ⟨v, hv⟩ : 2 ^ (m + 1) ∣ 4294967296 := Nat.pow_dvd_pow 2 (show m + 1 ≤ 32 from hm)
     have hpp : 2 ^ (m + 1) = 2 ^ m * 2 := Nat.pow_succ 2 m
     have hpos : 0 < 2 ^ m := Nat.two_pow_pos m
     rw [hu, hv] at hQ1
     have h1 := Nat.lt_of_mul_lt_mul_left hQ1
     have h2 := Nat.mul_le_mul_left (2 ^ (m + 1)) (show u + 1 ≤ v from h1)
     rw [Nat.mul_add, ← hv, ← hu] at h2
     omega
    have hshl : shl .u32 1 (m : Int) = ((2 ^ m : Nat) : Int) := by
     unfold shl
     rw [Int.toNat_natCast, show min m IntKind.u32.bits = m from Nat.min_eq_left (show m ≤ 32 from by omega), Int.one_mul]
     have e : (2 : Int) ^ m = ((2 ^ m : Nat) : Int) := by rw [Int.natCast_pow]; rfl
     have w : ∀ n : Int, IntKind.u32.wrap n = n % 4294967296 := fun n => by simp [IntKind.wrap, IntKind.bits, IntKind.signed]
     rw [e, w]
     omega
    have hor : Go.bits .or .u32 (Q : Int) ((2 ^ m : Nat) : Int) = ((Q + 2 ^ m : Nat) : Int) := nat_digit.or_sum (r := m + 1) (by omega) (Nat.pow_lt_pow_right (by omega) (by omega)) hQ hQ1
    have hdiv : Q + A / B = Q + 2 ^ m + (A - 2 ^ m * B) / B := by
     have : A = A - 2 ^ m * B + 2 ^ m * B := by omega
     conv => lhs; rw [this, Nat.add_mul_div_right _ _ (by omega)]
     omega
    have hmod : A % B = (A - 2 ^ m * B) % B := by
     have : A = A - 2 ^ m * B + 2 ^ m * B := by omega
     conv => lhs; rw [this, Nat.add_mul_mod_self_right]
    rw [hdiv, hmod]
    refine Ev.congr (fun k => ?_) (ih (A - 2 ^ m * B) (Q + 2 ^ m) (by omega) hA' (by rw [Nat.add_mod_right]; exact hQm) hQ2)
    simp only [if_true]
    rw [if_pos (Int.natCast_nonneg m), hshl, hor, e2]
theorem nat_digit.ev {b : List Int} (hb : Num.Ws b) (hlb : b.length < 549755813890) (h0 : Num.nv b ≠ 0) (A : Nat) (hA : A < 4294967296 * Num.nv b) : Ev (fun k => nat_digit.f k (Num.nd A) b) (((A / Num.nv b : Nat) : Int), Num.nd (A % Num.nv b)) := by
 have := nat_digit.ev_l hb hlb h0 32 A 0 (by omega) hA (by decide) (by omega)
 rw [Nat.zero_add] at this
 exact this
section
def nat_DivMod.f (_k : Nat) (l0 : List Int) (l1 : List Int) : Option (List Int × List Int × Int) := if Num.okd l0 = true then (if Num.okd l1 = true then (if Num.nv l1 = 0 then some ([], [], 5) else some (Num.nd (Num.nv l0 / Num.nv l1), Num.nd (Num.nv l0 % Num.nv l1), 0)) else none) else none
def nat_DivMod.st (z : List Int) (B : Nat) (pre : List Nat) : Nat × List Int := pre.foldl (fun s j => ((s.1 * 4294967296 + (Back.wd z j).toNat) % B, s.2.set (Back.ix z.length j) (((s.1 * 4294967296 + (Back.wd z j).toNat) / B : Nat) : Int))) (0, List.replicate z.length 0)
theorem nat_DivMod.st_snoc (z : List Int) (B : Nat) (pre : List Nat) (x : Nat) : nat_DivMod.st z B (pre ++ [x]) = (((nat_DivMod.st z B pre).1 * 4294967296 + (Back.wd z x).toNat) % B, (nat_DivMod.st z B pre).2.set (Back.ix z.length x) ((((nat_DivMod.st z B pre).1 * 4294967296 + (Back.wd z x).toNat) / B : Nat) : Int)) := by simp [nat_DivMod.st]
theorem nat_DivMod.st_lt (z : List Int) {B : Nat} (h : B ≠ 0) (pre : List Nat) : (nat_DivMod.st z B pre).1 < B := by
 rcases List.eq_nil_or_concat pre with rfl | ⟨ini, x, rfl⟩
 ·simp only [nat_DivMod.st, List.foldl_nil]; omega
 ·rw [List.concat_eq_append, nat_DivMod.st_snoc]; exact Nat.mod_lt _ (by omega)
theorem nat_DivMod.u32_nat (n : Nat) (h : n < 4294967296) : IntKind.u32.wrap (n : Int) = (n : Int) := by
 have : ∀ x : Int, IntKind.u32.wrap x = x % 4294967296 := fun x => by simp [IntKind.wrap, IntKind.bits, IntKind.signed]
 rw [this, mod32_nat, Nat.mod_eq_of_lt h]
theorem nat_DivMod.quo32 (m B : Nat) (hd : m / B < 4294967296) : (Value.int .u32 (IntKind.u32.wrap (IntKind.u64.wrap ((m : Int) / (B : Int))))) = Value.int .u32 ((m / B : Nat) : Int) := by
 have hx : m / B < 18446744073709551616 := by omega
 have ht : (m : Int) / (B : Int) = ((m / B : Nat) : Int) := rfl
 generalize m / B = x at hd hx ht ⊢
 rw [ht, u64_nat x hx, nat_DivMod.u32_nat x hd]
/-- Long division, the highest word first: plain law. -/
theorem nat_DivMod.st_range (z : List Int) (hz : Num.Ws z) {B : Nat} (hB : B ≠ 0) : ∀ k, k ≤ z.length → ∃ qs, qs.length = k ∧ Num.Ws qs ∧ Num.nv qs = Num.nv (z.drop (z.length - k)) / B ∧ nat_DivMod.st z B (List.range k) = (Num.nv (z.drop (z.length - k)) % B, List.replicate (z.length - k) 0 ++ qs)
 | 0, _ => ⟨[], rfl, Num.Ws.nil, by simp [Num.nv], by simp [nat_DivMod.st, Num.nv]⟩
 | k + 1, hk => by
  obtain ⟨qs, h1, h2, h3, h4⟩ := nat_DivMod.st_range z hz hB k (by omega)
  obtain ⟨q, hq⟩ : ∃ q, q = z.length - (k + 1) := ⟨_, rfl⟩
  have hq1 : z.length - k = q + 1 := by omega
  have hql : q < z.length := by omega
  have hix : Back.ix z.length k = q := by unfold Back.ix; omega
  have hd : z.drop q = z[q] :: z.drop (q + 1) := List.drop_eq_getElem_cons hql
  have hw : Back.wd z k = z[q] := by unfold Back.wd; rw [hix, List.getElem?_eq_getElem hql]; rfl
  have hw2 := hz _ (List.getElem_mem hql)
  rw [hq1] at h3 h4
  rw [List.range_succ, nat_DivMod.st_snoc, h4, ← hq, hix, hw, hd]
  simp only [Num.nv]
  obtain ⟨u, hu⟩ : ∃ u : Nat, u = z[q].toNat := ⟨_, rfl⟩
  obtain ⟨D, hD⟩ : ∃ D, D = Num.nv (z.drop (q + 1)) := ⟨_, rfl⟩
  have hu32 : u < 4294967296 := by omega
  rw [← hu, ← hD]
  rw [← hD] at h3
  have hsum : u + 4294967296 * D = (D % B * 4294967296 + u) + B * (4294967296 * (D / B)) := by
   have h := congrArg (fun x => 4294967296 * x) (Nat.div_add_mod D B)
   simp only [Nat.mul_add] at h
   have h' := Nat.mul_left_comm B 4294967296 (D / B)
   omega
  have hlt : D % B * 4294967296 + u < B * 4294967296 := by
   have := Nat.mod_lt D (Nat.pos_of_ne_zero hB)
   have := Nat.mul_le_mul_right 4294967296 (show D % B + 1 ≤ B from this)
   omega
  have hdv : (D % B * 4294967296 + u) / B < 4294967296 := Nat.div_lt_of_lt_mul hlt
  obtain ⟨v, hv⟩ : ∃ v, v = (D % B * 4294967296 + u) / B := ⟨_, rfl⟩
  rw [← hv] at hdv
  rw [← hv]
  refine ⟨(v : Int) :: qs, by simp [h1], Num.Ws.cons (by omega) (by omega) h2, ?_, ?_⟩
  ·simp only [Num.nv, Int.toNat_natCast]
   rw [h3, hsum, Nat.add_mul_div_left _ _ (Nat.pos_of_ne_zero hB), ← hv]
  ·rw [hsum, Nat.add_mul_mod_self_left]
   congr 1
   rw [List.replicate_succ', List.append_assoc, List.set_append_right _ _ (by simp)]
   simp
open Go.Shelf Back Go.Proofs.YtdhioaoojemcpaaW.PrintLast in
attribute [local go_sem] Oper.semAt_some in
set_option maxHeartbeats 8000000 in
set_option maxRecDepth 100000 in
/-- out[k] = uint32(n / uint64(b[0])). -/
theorem nat_DivMod.reg12 (l Bb Bo Br q m B b1 off1 go zl cz1 ol co : Nat) {y0 y1 y2 y4 y5 y6 y10 y12 y13 y14 y15 y16 y17 y18 y19 y20 y21 y22 y23 y24 y25 y26 y27 y28 y29 y30 y31 y32 y33 y34 y35 y36 y37 y38 y39 y40 y41 y42 y43 y44 y45 y46 y47 y48 y49 y50 y51 y52 y53 y54 y55 y56 y57 y58 y59 y60 y61 y62 y63 y64 y65 y66 y67 y68 : Value} (W : World) (v0 : Value)
  (hcB : W.cell? ⟨Bb, 0, none⟩ = some (.slice (some ⟨b1, off1, none⟩) zl cz1)) (hcO : W.cell? ⟨Bo, 0, none⟩ = some (.slice (some ⟨go, 0, none⟩) ol co)) (hcz : W.cell? ⟨b1, off1, none⟩ = some (.int .u32 (B : Int)))
  (hcq : W.cell? ⟨go, q, none⟩ = some v0) (hfq : W.frozen? ⟨go, q, none⟩ = false) (hB0 : B ≠ 0) (hB32 : B < 4294967296) (hmB : m < 4294967296 * B) (hq : (q : Int) < (ol : Int)) (hz : (0 : Int) < (zl : Int)) :
  (Code.region 12 (opsOf Try.f75 12) true : Code).wpIn (Fence.wide.inRound l) 1 Try.prog (Back.only fun a W12 => ∃ x40 x41 x42 x43 x44 x45 x46 x47 x48 x49 : Value, a = { tmps := (y0 :: y1 :: y2 :: Value.pointer (some ⟨Bb, 0, none⟩) :: y4 :: y5 :: y6 :: Value.pointer (some ⟨Bo, 0, none⟩) :: Value.pointer (some ⟨Br, 0, none⟩) :: Value.int .i64 (q : Int) :: y10 :: Value.int .u64 (m : Int) :: y12 :: y13 :: y14 :: y15 :: y16 :: y17 :: y18 :: y19 :: y20 :: y21 :: y22 :: y23 :: y24 :: y25 :: y26 :: y27 :: y28 :: y29 :: y30 :: y31 :: y32 :: y33 :: y34 :: y35 :: y36 :: y37 :: y38 :: y39 :: x40 :: x41 :: x42 :: x43 :: x44 :: x45 :: x46 :: x47 :: x48 :: x49 :: y50 :: y51 :: y52 :: y53 :: y54 :: y55 :: y56 :: y57 :: y58 :: y59 :: y60 :: y61 :: y62 :: y63 :: y64 :: y65 :: y66 :: y67 :: y68 :: []).toArray, defers := [] } ∧ W12 = W.drew.setCell ⟨go, q, none⟩ (.int .u32 ((m / B : Nat) : Int))) { tmps := (y0 :: y1 :: y2 :: Value.pointer (some ⟨Bb, 0, none⟩) :: y4 :: y5 :: y6 :: Value.pointer (some ⟨Bo, 0, none⟩) :: Value.pointer (some ⟨Br, 0, none⟩) :: Value.int .i64 (q : Int) :: y10 :: Value.int .u64 (m : Int) :: y12 :: y13 :: y14 :: y15 :: y16 :: y17 :: y18 :: y19 :: y20 :: y21 :: y22 :: y23 :: y24 :: y25 :: y26 :: y27 :: y28 :: y29 :: y30 :: y31 :: y32 :: y33 :: y34 :: y35 :: y36 :: y37 :: y38 :: y39 :: y40 :: y41 :: y42 :: y43 :: y44 :: y45 :: y46 :: y47 :: y48 :: y49 :: y50 :: y51 :: y52 :: y53 :: y54 :: y55 :: y56 :: y57 :: y58 :: y59 :: y60 :: y61 :: y62 :: y63 :: y64 :: y65 :: y66 :: y67 :: y68 :: []).toArray, defers := [] } W := by
 have hwB : IntKind.u64.wrap (B : Int) = (B : Int) := u64_nat B (by omega)
 have hB0b : ((B : Int) == 0) = false := by simpa using hB0
 have hBpos : (1 : Int) ≤ (B : Int) := by omega
 have hq0 : 0 ≤ (q : Int) := by omega
 have hqn : q < ol := by omega
 have hzn : 0 < zl := by omega
 have hd : m / B < 4294967296 := Nat.div_lt_of_lt_mul (by rw [Nat.mul_comm]; exact hmB)
 have hval := nat_DivMod.quo32 m B hd
 simp only [opsOf, opsIn, Try.f75, Option.bind_some, Option.bind]
 refine Mem.startR_ (N := 11) (S := (fun w' => w'.cell? ⟨Bo, 0, none⟩ = some (.slice (some ⟨go, 0, none⟩) ol co) ∧ w'.cell? ⟨Bb, 0, none⟩ = some (.slice (some ⟨b1, off1, none⟩) zl cz1) ∧ w'.cell? ⟨b1, off1, none⟩ = some (.int .u32 (B : Int)))) (ds := [10]) #[false, false, false, false, false, false, false, false, false, false, false] (by kernel_rfl) (by kernel_rfl) rfl rfl ⟨hcO, hcB, hcz⟩ (fun hHeld => ?_)
 replace hcq : W.drew.cell? ⟨go, q, none⟩ = some v0 := hcq
 replace hfq : W.drew.frozen? ⟨go, q, none⟩ = false := hfq
 generalize W.drew = W1 at hHeld hcq hfq ⊢
 refine Short.takeS_ (i := 0) (N := some 40) #[true, false, false, false, false, false, false, false, false, false, false] (by kernel_rfl) hHeld ?_
 refine Short.pureS_ (i := 1) (N := some 41) #[true, true, false, false, false, false, false, false, false, false, false] (by kernel_rfl) ?_
 refine Short.pureS_ (i := 2) (N := some 42) #[true, true, true, false, false, false, false, false, false, false, false] (by kernel_rfl) ?_
 refine Short.takeS_ (i := 3) (N := some 43) #[true, true, true, true, false, false, false, false, false, false, false] (by kernel_rfl) hHeld ?_
 refine Short.pureS_ (i := 4) (N := some 44) #[true, true, true, true, true, false, false, false, false, false, false] (by kernel_rfl) ?_
 refine Short.takeS_ (i := 5) (N := some 45) #[true, true, true, true, true, true, false, false, false, false, false] (by kernel_rfl) hHeld ?_
 refine Short.pureS_ (i := 6) (N := some 46) #[true, true, true, true, true, true, true, false, false, false, false] (by kernel_rfl) ?_
 refine Short.pureS_ (i := 7) (N := some 47) #[true, true, true, true, true, true, true, true, false, false, false] (by kernel_rfl) ?_
 refine Short.pureS_ (i := 8) (N := some 48) #[true, true, true, true, true, true, true, true, true, false, false] (by kernel_rfl) ?_
 refine Short.pureS_ (i := 9) (N := some 49) #[true, true, true, true, true, true, true, true, true, true, false] (by kernel_rfl) ?_
 refine last_ (i := 10) (N := none) #[true, true, true, true, true, true, true, true, true, true, true] rfl rfl (by kernel_rfl) (by decide) (fun K hK => ?_)
 refine skip_ (w1 := ?_) (by rfl) rfl ?_ ?_
 rotate_left
 ·go_simp
  rfl
 refine hK.out _ _ ?_
 clear hK K
 refine done_ (by kernel_rfl) ?_
 exact ⟨_, _, _, _, _, _, _, _, _, _, rfl, by first | rw [hval] | rfl⟩
open Go.Shelf Back Go.Proofs.YtdhioaoojemcpaaW.PrintLast in
attribute [local go_sem] Oper.semAt_some in
set_option maxHeartbeats 8000000 in
set_option maxRecDepth 100000 in
/-- out[k], rest = digit(rest, b). -/
theorem nat_DivMod.reg14 (l Bb Bo Br q m B N5 go cz1 ol co c2 kd : Nat) (Az1 A2 : Option Addr) (z1 : List Int) {y0 y1 y2 y4 y5 y6 y10 y11 y12 y13 y14 y15 y16 y17 y18 y19 y20 y21 y22 y23 y24 y25 y26 y27 y28 y29 y30 y31 y32 y33 y34 y35 y36 y37 y38 y39 y40 y41 y42 y43 y44 y45 y46 y47 y48 y49 y50 y51 y52 y53 y54 y55 y56 y57 y58 y59 y60 y61 y62 y63 y64 y65 y66 y67 y68 : Value} (W : World) (v0 : Value)
  (hcB : W.cell? ⟨Bb, 0, none⟩ = some (.slice Az1 z1.length cz1)) (hcO : W.cell? ⟨Bo, 0, none⟩ = some (.slice (some ⟨go, 0, none⟩) ol co)) (hcR : W.cell? ⟨Br, 0, none⟩ = some (.slice A2 (Num.nd m).length c2)) (hfR : W.frozen? ⟨Br, 0, none⟩ = false)
  (hR1 : Kd.C (Kd.int .u32) W Az1 z1.length z1) (hC1 : z1.length ≤ cz1) (hV : Kd.V (Kd.int .u32) 92 W W.heap.size (fun k => N5 ≤ k) (.slice A2 (Num.nd m).length c2) (Num.nd m))
  (hcq : W.cell? ⟨go, q, none⟩ = some v0) (hfq : W.frozen? ⟨go, q, none⟩ = false) (hq : (q : Int) < (ol : Int)) (h5 : N5 ≤ W.heap.size) (hlO : Bo < W.heap.size) (hlB : Bb < W.heap.size) (hlr : Br < W.heap.size) (hlo : go < W.heap.size) (hne : Br ≠ go)
  (hdig : nat_digit.f kd (Num.nd m) z1 = some (((m / B : Nat) : Int), Num.nd (m % B))) :
  (Code.region 14 (opsOf Try.f75 14) true : Code).wpIn (Fence.wide.inRound l) 1 Try.prog (Back.only fun a W12 => ∃ x57 x58 x59 x60 x61 x62 x63 x64 x65 : Value, ∃ v1 w10, a = { tmps := (y0 :: y1 :: y2 :: Value.pointer (some ⟨Bb, 0, none⟩) :: y4 :: y5 :: y6 :: Value.pointer (some ⟨Bo, 0, none⟩) :: Value.pointer (some ⟨Br, 0, none⟩) :: Value.int .i64 (q : Int) :: y10 :: y11 :: y12 :: y13 :: y14 :: y15 :: y16 :: y17 :: y18 :: y19 :: y20 :: y21 :: y22 :: y23 :: y24 :: y25 :: y26 :: y27 :: y28 :: y29 :: y30 :: y31 :: y32 :: y33 :: y34 :: y35 :: y36 :: y37 :: y38 :: y39 :: y40 :: y41 :: y42 :: y43 :: y44 :: y45 :: y46 :: y47 :: y48 :: y49 :: y50 :: y51 :: y52 :: y53 :: y54 :: y55 :: y56 :: x57 :: x58 :: x59 :: x60 :: x61 :: x62 :: x63 :: x64 :: x65 :: y66 :: y67 :: y68 :: []).toArray, defers := [] } ∧ W12 = (w10.setCell ⟨go, q, none⟩ (.int .u32 ((m / B : Nat) : Int))).setCell ⟨Br, 0, none⟩ v1 ∧ Below W.heap.size W w10 ∧ Kd.V (Kd.int .u32) 92 w10 0 (fun k => N5 ≤ k) v1 (Num.nd (m % B))) { tmps := (y0 :: y1 :: y2 :: Value.pointer (some ⟨Bb, 0, none⟩) :: y4 :: y5 :: y6 :: Value.pointer (some ⟨Bo, 0, none⟩) :: Value.pointer (some ⟨Br, 0, none⟩) :: Value.int .i64 (q : Int) :: y10 :: y11 :: y12 :: y13 :: y14 :: y15 :: y16 :: y17 :: y18 :: y19 :: y20 :: y21 :: y22 :: y23 :: y24 :: y25 :: y26 :: y27 :: y28 :: y29 :: y30 :: y31 :: y32 :: y33 :: y34 :: y35 :: y36 :: y37 :: y38 :: y39 :: y40 :: y41 :: y42 :: y43 :: y44 :: y45 :: y46 :: y47 :: y48 :: y49 :: y50 :: y51 :: y52 :: y53 :: y54 :: y55 :: y56 :: y57 :: y58 :: y59 :: y60 :: y61 :: y62 :: y63 :: y64 :: y65 :: y66 :: y67 :: y68 :: []).toArray, defers := [] } W := by
 have hq0 : 0 ≤ (q : Int) := by omega
 have hqn : q < ol := by omega
 simp only [opsOf, opsIn, Try.f75, Option.bind_some, Option.bind]
 refine Mem.startR_ (N := 11) (S := (fun w' => w'.cell? ⟨Bo, 0, none⟩ = some (.slice (some ⟨go, 0, none⟩) ol co) ∧ w'.cell? ⟨Br, 0, none⟩ = some (.slice A2 (Num.nd m).length c2) ∧ w'.cell? ⟨Bb, 0, none⟩ = some (.slice Az1 z1.length cz1))) (ds := [9, 10]) #[false, false, false, false, false, false, false, false, false, false, false] (by kernel_rfl) (by kernel_rfl) rfl rfl ⟨hcO, hcR, hcB⟩ (fun hHeld => ?_)
 refine Short.takeS_ (i := 0) (N := some 58) #[true, false, false, false, false, false, false, false, false, false, false] (by kernel_rfl) hHeld ?_
 refine Short.pureS_ (i := 1) (N := some 59) #[true, true, false, false, false, false, false, false, false, false, false] (by kernel_rfl) ?_
 refine Short.takeS_ (i := 2) (N := some 60) #[true, true, true, false, false, false, false, false, false, false, false] (by kernel_rfl) hHeld ?_
 refine Short.takeS_ (i := 3) (N := some 61) #[true, true, true, true, false, false, false, false, false, false, false] (by kernel_rfl) hHeld ?_
 refine one_ (i := 4) (N := some 62) #[true, true, true, true, true, false, false, false, false, false, false] rfl rfl (by kernel_rfl) (by decide) (fun K hK => ?_)
 refine Short.goesD_ Try.func98 #[.slice A2 (Num.nd m).length c2, .slice Az1 z1.length cz1] ?_
 with_reducible refine (nat_digit.calls kd (fun k => N5 ≤ k) _ _ (Num.nd m) _ _ z1 _ _ _ (Kd.V_drew hV) (Kd.C_below hR1 (Below.drew (Below.refl _ W))) hC1 hdig).mono ?_
 rintro e w10 ⟨v1, rfl, ho1, hb1⟩
 obtain ⟨Av1, cv1, hv1⟩ := Kd.V_slice ho1
 subst hv1
 refine ⟨_, rfl, ?_⟩
 have hb0 : Below W.heap.size W w10 := ((Below.refl _ W).drew).trans hb1
 have hq10 : w10.cell? ⟨go, q, none⟩ = some v0 := (hb0.cell (p := ⟨go, q, none⟩) hlo).trans hcq
 have hfq10 : w10.frozen? ⟨go, q, none⟩ = false := (hb0.frozen (p := ⟨go, q, none⟩) hlo).trans hfq
 have hr10 : w10.cell? ⟨Br, 0, none⟩ = some (.slice A2 (Num.nd m).length c2) := (hb0.cell (p := ⟨Br, 0, none⟩) hlr).trans hcR
 have hfr10 : w10.frozen? ⟨Br, 0, none⟩ = false := (hb0.frozen (p := ⟨Br, 0, none⟩) hlr).trans hfR
 refine hK.out _ _ ⟨(hb0.cell (p := ⟨Bo, 0, none⟩) hlO).trans hcO, hr10, (hb0.cell (p := ⟨Bb, 0, none⟩) hlB).trans hcB⟩ (fun hHeld => ?_)
 clear hK K
 have hrs : (w10.setCell ⟨go, q, none⟩ (.int .u32 ((m / B : Nat) : Int))).cell? ⟨Br, 0, none⟩ = some (.slice A2 (Num.nd m).length c2) := by rw [Mem.cell_set w10 hne]; exact hr10
 have hfrs : (w10.setCell ⟨go, q, none⟩ (.int .u32 ((m / B : Nat) : Int))).frozen? ⟨Br, 0, none⟩ = false := by rw [Mem.frozen_set w10 hne]; exact hfr10
 refine Short.normS_ ?_
 refine Short.pureS_ (i := 5) (N := some 57) #[true, true, true, true, true, true, false, false, false, false, false] (by kernel_rfl) ?_
 refine Short.pureS_ (i := 6) (N := some 63) #[true, true, true, true, true, true, true, false, false, false, false] (by kernel_rfl) ?_
 refine Short.pureS_ (i := 7) (N := some 64) #[true, true, true, true, true, true, true, true, false, false, false] (by kernel_rfl) ?_
 refine Short.pureS_ (i := 8) (N := some 65) #[true, true, true, true, true, true, true, true, true, false, false] (by kernel_rfl) ?_
 refine last_ (i := 9) (N := none) #[true, true, true, true, true, true, true, true, true, true, false] rfl rfl (by kernel_rfl) (by decide) (fun K hK => ?_)
 refine skip_ (w1 := ?_) (by rfl) rfl ?_ ?_
 rotate_left
 ·go_simp
  rfl
 refine hK.out _ _ ?_
 clear hK K
 refine last_ (i := 10) (N := none) #[true, true, true, true, true, true, true, true, true, true, true] rfl rfl (by kernel_rfl) (by decide) (fun K hK => ?_)
 refine skip_ (w1 := ?_) (by rfl) rfl ?_ ?_
 rotate_left
 ·go_simp
  rfl
 refine hK.out _ _ ?_
 clear hK K
 refine done_ (by kernel_rfl) ?_
 exact ⟨_, _, _, _, _, _, _, _, _, _, w10, rfl, rfl, hb0, Kd.V_mono ho1 (fun k hk => by rcases hk with h | h; exact h; exact Nat.le_trans h5 h)⟩
open Go.Shelf Back in
attribute [local go_sem] Oper.semAt_some in
set_option maxHeartbeats 1000000 in
set_option maxRecDepth 100000 in
theorem nat_DivMod.calls (k : Nat) (A0 : Option Addr) (c0 : Nat) (l0 : List Int) (A1 : Option Addr) (c1 : Nat) (l1 : List Int) (r1 : List Int) (r2 : List Int) (r3 : Int) (w : World) (hr0 : Kd.C (Kd.int .u32) w A0 l0.length l0) (hc0 : l0.length ≤ c0) (hr1 : Kd.C (Kd.int .u32) w A1 l1.length l1) (hc1 : l1.length ≤ c1) (h : nat_DivMod.f k l0 l1 = some (r1, r2, r3)) :
  Calls Try.prog 75 #[.slice A0 l0.length c0, .slice A1 l1.length c1] w fun e w' => ∃ v0_ v1_ : Value, e = .returned (.tuple #[v0_, v1_, .int .i64 r3]) ∧ Kd.R (Kd.int .u32) 92 w' w.heap.size (fun k_ => (w.heap.size ≤ k_)) v0_ r1 ∧ Kd.V (Kd.int .u32) 92 w' w.heap.size (fun k_ => (w.heap.size ≤ k_) ∧ some k_ ≠ (v0_ : Value).ownBlock) v1_ r2 ∧ Below w.heap.size w w' := by
 have hok0 : Num.okd l0 = true := by
  unfold nat_DivMod.f at h
  split at h
  ·assumption
  ·cases h
 have hok1 : Num.okd l1 = true := by
  unfold nat_DivMod.f at h
  rw [if_pos hok0] at h
  split at h
  ·assumption
  ·cases h
 obtain ⟨hL0, hW0⟩ := (Num.okd_iff l0).1 hok0
 obtain ⟨hL1, hW1⟩ := (Num.okd_iff l1).1 hok1
 unfold nat_DivMod.f at h
 rw [if_pos hok0, if_pos hok1] at h
 have ht0 := nat_trim.sem (Num.okd_okw hok0) (l0.length + 1) (by omega)
 have ht1 := nat_trim.sem (Num.okd_okw hok1) (l1.length + 1) (by omega)
 obtain ⟨z0, hz0⟩ : ∃ z, z = Num.nd (Num.nv l0) := ⟨_, rfl⟩
 obtain ⟨z1, hz1⟩ : ∃ z, z = Num.nd (Num.nv l1) := ⟨_, rfl⟩
 have hn0 : z0.length < 549755813888 := by
  have := Num.nd_length_le (Num.nv_lt hW0)
  rw [hz0]; omega
 have hn1 : z1.length < 549755813888 := by
  have := Num.nd_length_le (Num.nv_lt hW1)
  rw [hz1]; omega
 rw [← hz0] at ht0
 rw [← hz1] at ht1
 have HT0 := Aside0.mk ht0
 have HT1 := Aside0.mk ht1
 have HR0 := Aside0.mk hr0
 have HC0 := Aside0.mk hc0
 have HR1 := Aside0.mk hr1
 have HC1 := Aside0.mk hc1
 have HZ0 := Aside0.mk hz0
 have HZ1 := Aside0.mk hz1
 have HH := Aside0.mk h
 clear ht0 ht1 hr0 hc0 hr1 hc1 hz0 hz1 h hok0 hok1 hL0 hL1 hW0 hW1
 have hB0 : Below w.heap.size w (w.alloc (.cells #[.slice A1 l1.length c1] 30)) := (Below.refl _ w).alloc (Nat.le_refl _) _
 have bB := Boxed.new w 30 (.slice A1 l1.length c1)
 refine (callsIn_wide (n := 3)).1 ?_
 refine callsIn_of_wp_marks Try.func75 rfl trivial ?_ rfl
 simp only [Try.ntmps75, List.size_toArray, List.length_cons, List.length_nil, Nat.reduceAdd, Nat.reduceSub, Array.replicate_succ, Array.replicate_zero, List.push_toArray, List.append_toArray, List.nil_append, List.cons_append]
 refine wpIn_wide.2 ?_
 go_wp2
 have hcb0 := bB.cell
 have hsz0 : (w.alloc (.cells #[.slice A1 l1.length c1] 30)).heap.size = w.heap.size + 1 := by simp
 generalize (w.alloc (.cells #[.slice A1 l1.length c1] 30)) = w0 at hB0 bB hcb0 hsz0 ⊢
 refine wp_piece (fun a W3 => ∃ Az0 cz0 Az1 cz1, a = { tmps := (Value.slice Az0 z0.length cz0 :: Value.slice A1 l1.length c1 :: undef :: Value.pointer (some ⟨w.heap.size, 0, none⟩) :: Value.slice none 0 0 :: Value.slice none 0 0 :: Value.int .i64 0 :: undef :: undef :: undef :: undef :: undef :: undef :: Value.slice A0 l0.length c0 :: Value.slice Az0 z0.length cz0 :: Value.slice A1 l1.length c1 :: Value.slice Az1 z1.length cz1 :: undef :: undef :: undef :: undef :: undef :: undef :: undef :: undef :: undef :: undef :: undef :: undef :: undef :: undef :: undef :: undef :: undef :: undef :: undef :: undef :: undef :: undef :: undef :: undef :: undef :: undef :: undef :: undef :: undef :: undef :: undef :: undef :: undef :: undef :: undef :: undef :: undef :: undef :: undef :: undef :: undef :: undef :: undef :: undef :: undef :: undef :: undef :: undef :: undef :: undef :: undef :: undef :: []).toArray, defers := [] } ∧ Kd.R (Kd.int .u32) 92 W3 w.heap.size (fun _ => True) (.slice Az0 z0.length cz0) z0 ∧ Kd.R (Kd.int .u32) 92 W3 w.heap.size (fun _ => True) (.slice Az1 z1.length cz1) z1 ∧ Below w.heap.size w W3 ∧ Boxed W3 w.heap.size 30 (.slice Az1 z1.length cz1)) ?_ ?_
 have hlt0 : w.heap.size < w0.heap.size := bB.lt
 ·go_region_with (first | (go_at_call 71; (with_reducible refine (nat_trim.calls _ _ _ l0 _ _ (Kd.C_below HR0.out hB0.drew) HC0.out HT0.out).mono ?_); rintro e w1 ⟨v0, rfl, ho0, hb0⟩; obtain ⟨Az0, cz0, hv0⟩ := Kd.R_slice ho0; subst hv0; have hB1 : Below w.heap.size w w1 := hB0.drew.trans (hb0.mono hB0.size); have bB1 : Boxed w1 w.heap.size 30 (.slice A1 l1.length c1) := (hb0.block _ hlt0).trans bB; have hcb1 := bB1.cell) | (go_at_call 71; (with_reducible refine (nat_trim.calls _ _ _ l1 _ _ (Kd.C_below HR1.out hB1) HC1.out HT1.out).mono ?_); rintro e w2 ⟨v1, rfl, ho1, hb1⟩; obtain ⟨Az1, cz1, hv1⟩ := Kd.R_slice ho1; subst hv1; have bB2 : Boxed w2 w.heap.size 30 (.slice A1 l1.length c1) := (hb1.block _ bB1.lt).trans bB1; have hcb2 := bB2.cell; have hfb2 := bB2.frozen))
  all_goals
   have hs0 : w0.drew.heap.size = w0.heap.size := rfl
   have hs1 := hb0.size
   have hs2 := hb1.size
   have R03 := Kd.R_far (p := ⟨w.heap.size, 0, none⟩) (Kd.R_mono (Kd.R_bound (Kd.R_below ho0 hb1)) (ok' := fun k => w0.heap.size ≤ k) (fun k hk => hk.2.1)) (fun k hk => by simp only; omega) (.slice Az1 z1.length cz1)
   have R13 := Kd.R_far (p := ⟨w.heap.size, 0, none⟩) (Kd.R_mono (Kd.R_bound ho1) (ok' := fun k => w1.heap.size ≤ k) (fun k hk => hk.2.1)) (fun k hk => by simp only; omega) (.slice Az1 z1.length cz1)
   have hB3 : Below w.heap.size w (w2.setCell ⟨w.heap.size, 0, none⟩ (.slice Az1 z1.length cz1)) := (hB1.trans (hb1.mono (by omega))).setCell (p := ⟨w.heap.size, 0, none⟩) (Nat.le_refl _) _
   exact ⟨_, _, _, _, rfl, Kd.R_lower (Kd.R_mono R03 (fun _ _ => trivial)) (by omega), Kd.R_lower (Kd.R_mono R13 (fun _ _ => trivial)) (by omega), hB3, bB2.set _⟩
 rintro a W3 ⟨Az0, cz0, Az1, cz1, rfl, R03, R13, hB3, bB3⟩
 clear hB0 bB hcb0 hsz0
 clear w0
 refine only_then ?_
 have hc3 := bB3.cell
 by_cases hz : Num.nv l1 = 0
 ·have hl1 : z1.length = 0 := by rw [HZ1.out, hz, Num.nd_zero]; rfl
  have h := HH.out
  rw [if_pos hz] at h
  simp only [Option.some.injEq, Prod.mk.injEq] at h
  obtain ⟨rfl, rfl, rfl⟩ := h
  clear hz HH
  go_wp2
  exact ⟨_, results_tmp3 rfl _ _ _, _, _, rfl, Kd.R_nil _ _ _ _ _, Kd.V_nil _ _ _ _ _, hB3⟩
 ·have hl1 : 0 < z1.length := by
   rcases Nat.eq_zero_or_pos z1.length with h0 | h0
   ·exact absurd (Num.nd_eq_nil.1 (by rw [← HZ1.out]; exact List.eq_nil_of_length_eq_zero h0)) hz
   ·exact h0
  have h := HH.out
  rw [if_neg hz] at h
  simp only [Option.some.injEq, Prod.mk.injEq] at h
  obtain ⟨rfl, rfl, rfl⟩ := h
  have HN := Aside0.mk hz
  have HW0 : Aside0 (Num.Ws z0) := ⟨by rw [HZ0.out]; exact Num.Ws_nd _⟩
  have HW1 : Aside0 (Num.Ws z1) := ⟨by rw [HZ1.out]; exact Num.Ws_nd _⟩
  clear hz HH
  have hl1' : ¬ (z1.length : Int) = 0 := by omega
  go_wp2_with (first | ((with_reducible refine gate_dst (N := 22) rfl ?_); refine Kd.R_make (Kd.int .u32) W3.heap.size 92 rfl (N := 22) rfl 30 _ _ rfl (z0.length : Int) rfl rfl Try.underlying30 (.int .u32 0) 4 info92 rfl (by decide) (by omega) 0 (ok := fun _ => True) (okp := fun _ => True) rfl (fun _ hk => hk) trivial (by omega) (by omega) (Below.refl _ _) (Nat.le_refl _) ?_; intro vo w4 ho4 hb4 hg4 hnew4; obtain ⟨Ao, co, hvo⟩ := Kd.R_slice ho4; subst hvo; simp only [Int.toNat_natCast, List.length_replicate] at ho4) | (go_at_call 97; refine (callsIn_wide.1 (back_in Fence.wide 0 trivial rfl _ _ _ _)).mono ?_; rintro e w5 ⟨rfl, rfl⟩))
  have hs4 := hb4.size
  have bO := ((Boxed.new w4 30 (.slice Ao z0.length co)).alloc (.cells #[.slice none 0 0] 30)).alloc (.cells #[.slice Az0 z0.length cz0] 30)
  have bR := (Boxed.new (w4.alloc (.cells #[.slice Ao z0.length co] 30)) 30 (.slice none 0 0)).alloc (.cells #[.slice Az0 z0.length cz0] 30)
  have bS := Boxed.new ((w4.alloc (.cells #[.slice Ao z0.length co] 30)).alloc (.cells #[.slice none 0 0] 30)) 30 (.slice Az0 z0.length cz0)
  rw [World.size_alloc] at bR
  rw [World.size_alloc, World.size_alloc] at bS
  have RO := ((Kd.R_alloc (Kd.R_alloc (Kd.R_alloc (Kd.R_tight rfl ho4) (.cells #[.slice Ao z0.length co] 30)) (.cells #[.slice none 0 0] 30)) (.cells #[.slice Az0 z0.length cz0] 30)))
  have hB5 : Below W3.heap.size W3 (((w4.alloc (.cells #[.slice Ao z0.length co] 30)).alloc (.cells #[.slice none 0 0] 30)).alloc (.cells #[.slice Az0 z0.length cz0] 30)) := ((hb4.alloc hs4 _).alloc (by simp; omega) _).alloc (by simp; omega) _
  have hs5 : (((w4.alloc (.cells #[.slice Ao z0.length co] 30)).alloc (.cells #[.slice none 0 0] 30)).alloc (.cells #[.slice Az0 z0.length cz0] 30)).heap.size = w4.heap.size + 3 := by simp
  have hgo : ∀ g, (Value.slice Ao z0.length co).ownBlock = some g → W3.heap.size ≤ g ∧ g < w4.heap.size := fun g hg => ⟨Kd.R_base ho4 g hg, Kd.R_lt ho4 g hg⟩
  generalize (((w4.alloc (.cells #[.slice Ao z0.length co] 30)).alloc (.cells #[.slice none 0 0] 30)).alloc (.cells #[.slice Az0 z0.length cz0] 30)) = W5 at bO bR bS RO hB5 hs5 ⊢
  have row0 := (Row.ofR R03 (Nat.le_refl _)).below hB5
  have row1 := Row.ofR R13 (Nat.le_refl _)
  clear hb4 hg4 ho4 hnew4
  refine (wpIn_wide (n := 3)).1 ?_
  refine wpIn_rangeFunc_ownG (F := Fence.wide) (n := 3) rfl (by omega) (gf := 104) (lb := #[.pointer (some ⟨w4.heap.size + 1 + 1, 0, none⟩)]) rfl trivial (enters_of Try.func104 (by kernel_rfl) rfl)
   (back_stops Fence.wide _ trivial rfl (by omega) (w4.heap.size + 1 + 1) W3.heap.size _ z0 (by omega) _ (by omega) (by omega) bS.cell row0) KB.trans (KB.putObj (by omega) (by omega)) (Below.refl _ _) (fun _ => rfl)
   (fun pre W => Below W3.heap.size W5 W ∧ Boxed W w4.heap.size 30 (.slice Ao z0.length co) ∧ Kd.R (Kd.int .u32) 92 W W3.heap.size (fun k => some k = (Value.slice Ao z0.length co).ownBlock) (.slice Ao z0.length co) (nat_DivMod.st z0 (Num.nv l1) pre).2 ∧ ∃ vr, Boxed W (w4.heap.size + 1) 30 vr ∧ Kd.V (Kd.int .u32) 92 W 0 (fun k => W5.heap.size ≤ k) vr (Num.nd (nat_DivMod.st z0 (Num.nv l1) pre).1))
   (fun _ _ _ => False)
   (OwnFrom.and (ownFrom_below (by omega) (by omega)) (OwnFrom.and (Own.from (boxed_own _ _ _) _) (OwnFrom.and (Own.from (Mem.R_own _ _ _ _ _) _) (Own.from (Mem.V_own _ _ _ _ _ _) _))))
   (fun _ _ _ _ _ hs _ _ => hs)
   ⟨Below.refl _ _, bO, by simpa [nat_DivMod.st] using RO, _, bR, by simpa [nat_DivMod.st, Num.nd_zero] using Kd.V_nil _ _ _ _ _⟩
   (fun x => { tmps := (Value.slice Az0 z0.length cz0 :: Value.slice A1 l1.length c1 :: undef :: Value.pointer (some ⟨w.heap.size, 0, none⟩) :: Value.slice none 0 0 :: Value.slice none 0 0 :: Value.int .i64 0 :: Value.pointer (some ⟨w4.heap.size, 0, none⟩) :: Value.pointer (some ⟨w4.heap.size + 1, 0, none⟩) :: Value.int .i64 (ix z0.length x : Int) :: Value.int .u32 (wd z0 x) :: undef :: undef :: Value.slice A0 l0.length c0 :: Value.slice Az0 z0.length cz0 :: Value.slice A1 l1.length c1 :: Value.slice Az1 z1.length cz1 :: Value.slice Az1 z1.length cz1 :: Value.int .i64 (z1.length : Int) :: Value.bool false :: Value.slice Az0 z0.length cz0 :: Value.int .i64 (z0.length : Int) :: Value.slice Ao z0.length co :: Value.slice Az0 z0.length cz0 :: Value.func (.func 104) #[] #[.pointer (some ⟨w4.heap.size + 1 + 1, 0, none⟩)] :: Value.int .i64 (ix z0.length x : Int) :: Value.int .u32 (wd z0 x) :: undef :: undef :: undef :: undef :: undef :: undef :: undef :: undef :: undef :: undef :: undef :: undef :: undef :: undef :: undef :: undef :: undef :: undef :: undef :: undef :: undef :: undef :: undef :: undef :: undef :: undef :: undef :: undef :: undef :: undef :: undef :: undef :: undef :: undef :: undef :: undef :: undef :: undef :: undef :: undef :: undef :: undef :: []).toArray, defers := [] }) ?assign ?body ?done ?stop
  case assign =>
   intro l x W K hK
   gi_wp2
   exact hK
  case body =>
   rintro l pre x W ⟨hB5W, bO', RO', vr, bR', VR'⟩ hlt
   have hB := hB5.trans hB5W
   have hs5W := hB5W.size
   have hx : ix z0.length x < z0.length := by unfold ix; omega
   have hw := HW0.out.getD (ix z0.length x)
   obtain ⟨Ar, cr, hvr⟩ := Kd.V_slice VR'
   obtain ⟨R, hR⟩ : ∃ s, s = (nat_DivMod.st z0 (Num.nv l1) pre).1 := ⟨_, rfl⟩
   obtain ⟨O, hO⟩ : ∃ s, s = (nat_DivMod.st z0 (Num.nv l1) pre).2 := ⟨_, rfl⟩
   rw [← hR] at VR' hvr
   rw [← hO] at RO'
   subst hvr
   have hlR := (Kd.V_reads' VR').2.2
   have hcB := (hB.cell (p := ⟨w.heap.size, 0, none⟩) bB3.lt).trans hc3
   have hcO := bO'.cell
   have hcR := bR'.cell
   have hfR := bR'.frozen
   have hsW := hB5.size
   have hsB := hB.size
   obtain ⟨u, hu⟩ : ∃ u : Nat, (u : Int) = wd z0 x := ⟨(wd z0 x).toNat, by simp only [List.getD_eq_getElem?_getD] at hw; unfold wd; omega⟩
   have hu32 : u < 4294967296 := by simp only [List.getD_eq_getElem?_getD] at hw; unfold wd at hu; omega
   obtain ⟨q, hq⟩ : ∃ q, q = ix z0.length x := ⟨_, rfl⟩
   obtain ⟨B, hBe⟩ : ∃ B, B = Num.nv l1 := ⟨_, rfl⟩
   have hB0 : B ≠ 0 := by rw [hBe]; exact HN.out
   have hRB : R < B := by rw [hR, ← hBe]; exact nat_DivMod.st_lt z0 hB0 pre
   have hzB : Num.nv z1 = B := by rw [HZ1.out, Num.nv_nd, hBe]
   have hlr : (Num.nd R).length ≤ z1.length := by
    rw [HZ1.out, ← hBe]
    exact Num.nd_len_mono (by omega)
   have hnvr : Num.nv ([(u : Int)] ++ Num.nd R) = R * 4294967296 + u := by simp only [List.cons_append, List.nil_append, Num.nv, Num.nv_nd, Int.toNat_natCast]; omega
   obtain ⟨m, hm⟩ : ∃ m, m = R * 4294967296 + u := ⟨_, rfl⟩
   have HTr : Aside0 (nat_trim.f ((Num.nd R).length + 2) ([(u : Int)] ++ Num.nd R) = some (Num.nd (R * 4294967296 + u))) := ⟨by
    rw [← hnvr]
    exact nat_trim.sem_w (by rw [List.cons_append, List.nil_append]; exact Num.Ws.cons (by omega) (by omega) (Num.Ws_nd _)) (by simp; omega) _ (by simp)⟩
   obtain ⟨L1, hL1⟩ : ∃ L, L = [(u : Int)] ++ Num.nd R := ⟨_, rfl⟩
   have HTr1 : Aside0 (nat_trim.f ((Num.nd R).length + 2) L1 = some (Num.nd m)) := ⟨by rw [hL1, hm]; exact HTr.out⟩
   have HL1 := Aside0.mk hL1
   have HM := Aside0.mk hm
   have hmB : m < 4294967296 * B := by rw [hm]; have := Nat.mul_le_mul_left 4294967296 (show R + 1 ≤ B from hRB); omega
   clear hL1 HTr hm
   rw [← hq] at hx
   rw [← hq, ← hu]
   have HU := Aside0.mk hu
   have HQ := Aside0.mk hq
   have HR' := Aside0.mk hR
   have HO' := Aside0.mk hO
   have HBE := Aside0.mk hBe
   have HZB := Aside0.mk hzB
   have HB := Aside0.mk hB
   have HRO := Aside0.mk RO'
   have HVR := Aside0.mk VR'
   have HLR := Aside0.mk hlR
   have hlr4 : (1 + (Num.nd R).length) * 4 ≤ 140737488355328 := by omega
   have HGO := Aside0.mk hgo
   clear hu hq hR hO hBe hzB hw hnvr hB RO' VR' hlR hgo row0
   have hgo := HGO
   have bBW : Boxed W w.heap.size 30 (.slice Az1 z1.length cz1) := (HB.out.block _ bB3.lt).trans bB3
   have hcRL := (bR'.alloc (.cells #[.int .u32 (u : Int)] 92)).cell
   have hst : nat_DivMod.st z0 (Num.nv l1) (pre ++ [x]) = (m % B, O.set q ((m / B : Nat) : Int)) := by
    rw [nat_DivMod.st_snoc, ← HR'.out, ← HO'.out, ← HBE.out, ← HQ.out, ← HU.out, Int.toNat_natCast, ← HM.out]
   have hend : ∀ (W' : World) (v : Value), Mem.Turn W3.heap.size (w4.heap.size + 1 + 1) W W' → Boxed W' w4.heap.size 30 (.slice Ao z0.length co) → Kd.R (Kd.int .u32) 92 W' W3.heap.size (fun k => some k = (Value.slice Ao z0.length co).ownBlock) (.slice Ao z0.length co) (O.set q ((m / B : Nat) : Int)) → Boxed W' (w4.heap.size + 1) 30 v → Kd.V (Kd.int .u32) 92 W' 0 (fun k => W5.heap.size ≤ k) v (Num.nd (m % B)) →
     KeepsFrom W5.heap.size W W' ∧ KB W3.heap.size (w4.heap.size + 1 + 1) W W' ∧ Below W3.heap.size W5 W' ∧ Boxed W' w4.heap.size 30 (.slice Ao z0.length co) ∧ Kd.R (Kd.int .u32) 92 W' W3.heap.size (fun k => some k = (Value.slice Ao z0.length co).ownBlock) (.slice Ao z0.length co) (nat_DivMod.st z0 (Num.nv l1) (pre ++ [x])).2 ∧ ∃ vr, Boxed W' (w4.heap.size + 1) 30 vr ∧ Kd.V (Kd.int .u32) 92 W' 0 (fun k => W5.heap.size ≤ k) vr (Num.nd (nat_DivMod.st z0 (Num.nv l1) (pre ++ [x])).1) := by
    intro W' v hT h1 h2 h3 h4
    rw [hst]
    exact ⟨hT.ko.from _, hT.kb, hB5W.trans hT.kb.1, h1, h2, v, h3, h4⟩
   have HEND := Aside0.mk hend
   clear hst hend
   have hbb : w.heap.size < W3.heap.size := bB3.lt
   have hWs : w4.heap.size + 1 < W.heap.size := bR'.lt
   have hsB0 : W3.heap.size ≤ W.heap.size := HB.out.size
   have hBsW : w4.heap.size + 1 + 1 < W.heap.size := by omega
   by_cases hl1e : z1.length = 1
   ·have HL1E := Aside0.mk hl1e
    have ht1 : ((z1.length : Int) == 1) = true := by rw [hl1e]; rfl
    clear hl1e
    have hB32 : B < 4294967296 := by
     have := Num.nv_lt HW1.out
     rw [HZB.out, HL1E.out] at this
     exact this
    have hm64 : m < 18446744073709551616 := by omega
    have hlm : (Num.nd m).length ≤ 2 := Num.nd_length_le (k := 2) hm64
    have hsm : Aside0 (nat_Small.f 0 (Num.nd m) = some ((m : Int), true)) := ⟨by
     unfold nat_Small.f
     rw [if_pos (Num.okw_of (by omega) (Num.Ws_nd m)), Num.nv_nd, if_pos hm64]⟩
    gi_wp2_with (first | (gi_at_builtin; refine Mem.wpListIn_append_rows W.heap.size rfl (.tmp 28) (.tmp 29) 30 92 rfl Try.underlying30 info92 (.slice (some ⟨W.heap.size, 0, none⟩) 1 1) [(u : Int)] (Num.nd R) Ar (Num.nd R).length cr rfl rfl (Mem.R_lit1 W _ _) (Kd.C_alloc HLR.out _) (by simp) hlr4 ?_; intro v1 w1 hv1 hg1; rw [← HL1.out] at hv1; obtain ⟨A1', c1', hv1'⟩ := Kd.R_slice hv1; subst hv1'; have hW1 : Below W.heap.size W w1 := ((Below.refl W.heap.size W).alloc (Nat.le_refl _) _).grown hg1 (by simp) (fun k hk => by simp [Value.ownBlock] at hk; omega)) | (refine ⟨trivial, ?_⟩; gi_at_call 71; (with_reducible refine (CallsIn.inRound l (callsIn_wide.2 (nat_trim.calls _ _ _ L1 _ _ (Kd.R_reads' hv1).2.2 (Kd.R_reads' hv1).2.1 HTr1.out))).mono ?_); rintro e w2 ⟨v2, rfl, ho2, hb2⟩; obtain ⟨A2, c2, hv2⟩ := Kd.R_slice ho2; subst hv2; have hW2 : Below W.heap.size W w2 := hW1.trans (hb2.mono hW1.size); have bR2 : Boxed w2 (w4.heap.size + 1) 30 (.slice Ar (Num.nd R).length cr) := (hW2.block _ bR'.lt).trans bR'; have hcR2 := bR2.cell; have hfR2 := bR2.frozen; have bR9 := bR2.set (.slice A2 (Num.nd m).length c2); have hcR9 := bR9.cell; have bB9 : Boxed (w2.setCell ⟨w4.heap.size + 1, 0, none⟩ (.slice A2 (Num.nd m).length c2)) w.heap.size 30 (.slice Az1 z1.length cz1) := Boxed.other ((hW2.block _ bBW.lt).trans bBW) (by omega) _; have hcB9 := bB9.cell; have ho9 := Kd.R_far (p := ⟨w4.heap.size + 1, 0, none⟩) (Kd.R_mono (Kd.R_bound ho2) (ok' := fun k => w1.heap.size ≤ k) (fun k hk => hk.2.1)) (fun k hk => by have := hW1.size; have := bR'.lt; simp only; omega) (.slice A2 (Num.nd m).length c2)) | (refine ⟨trivial, ?_⟩; gi_at_call 93; (with_reducible refine (CallsIn.inRound l (callsIn_wide.2 (nat_Small.calls _ _ _ (Num.nd m) _ _ _ (Kd.R_reads' ho9).2.2 (Kd.R_reads' ho9).2.1 hsm.out))).mono ?_); rintro e w10 ⟨rfl, hb10⟩))
    have hT2 : Mem.Turn W3.heap.size (w4.heap.size + 1 + 1) W w2 := Mem.Turn.below hW2 hsB0 hBsW
    have hT9 := hT2.trans (Mem.Turn.set w2 0 (b := w4.heap.size + 1) (by omega) (by omega) (.slice A2 (Num.nd m).length c2))
    have hs9 : w2.heap.size ≤ (w2.setCell ⟨w4.heap.size + 1, 0, none⟩ (.slice A2 (Num.nd m).length c2)).heap.size := by simp [World.setCell]
    have hs2 := hW2.size
    have hT10 := hT9.trans (Mem.Turn.below hb10 (by omega) (by omega))
    have bB10 : Boxed w10 w.heap.size 30 (.slice Az1 z1.length cz1) := (hb10.block _ bB9.lt).trans bB9
    have bO9 : Boxed (w2.setCell ⟨w4.heap.size + 1, 0, none⟩ (.slice A2 (Num.nd m).length c2)) w4.heap.size 30 (.slice Ao z0.length co) := Mem.boxed_set ((hW2.block _ bO'.lt).trans bO') 0 (by omega) _
    have bO10 : Boxed w10 w4.heap.size 30 (.slice Ao z0.length co) := (hb10.block _ bO9.lt).trans bO9
    have bR10 : Boxed w10 (w4.heap.size + 1) 30 (.slice A2 (Num.nd m).length c2) := (hb10.block _ bR9.lt).trans bR9
    have RO9 := Kd.R_far (p := ⟨w4.heap.size + 1, 0, none⟩) (Kd.R_below HRO.out hW2) (fun k hk => by have := (hgo.out k hk.symm).2; simp only; omega) (.slice A2 (Num.nd m).length c2)
    have RO10 := Kd.R_below RO9 hb10
    have row10 := (((row1.below HB.out).below (hT9.kb.1)).below (hb10.mono (by omega)))
    have hOl := (Kd.R_reads' RO10).1
    obtain ⟨go, cap, hge, hg1, hg2, _⟩ := Kd.R_form RO10 (by omega)
    rw [← hOl] at hge
    obtain ⟨hAo, hco⟩ : Ao = some ⟨go, 0, none⟩ ∧ co = cap := by
     injection hge with e1 e2 e3
     exact ⟨e1, e3⟩
    have hgo4 := (hgo.out go (by rw [hAo]; rfl)).2
    subst hAo
    subst hco
    obtain ⟨hcq, hfq⟩ := Kd.R_celln 0 RO10 (q : Int) (by omega) (by omega)
    have hput := (Kd.R_putg (Kd.R_drew RO10) (q : Int) ((m / B : Nat) : Int)).1
    simp only [Int.toNat_natCast] at hcq hfq hput
    have hcO10 := bO10.cell
    have hcB10 := bB10.cell
    rcases row10 with ⟨hnil, _⟩ | ⟨b1, off1, cap1, e, hb1, hcs1⟩
    ·exfalso
     have := HL1E.out
     injection hnil with _ e2 _
     omega
    ·obtain ⟨hAz1, hcz1⟩ : Az1 = some ⟨b1, off1, none⟩ ∧ cz1 = cap1 := by
      injection e with e1 e2 e3
      exact ⟨e1, e3⟩
     subst hAz1
     subst hcz1
     have hzv : z1[0]?.getD 0 = (B : Int) := by
      have h1 := HZB.out
      have h2 := HL1E.out
      match z1, h2 with
      | [b], _ =>
       have := HW1.out.head
       simp only [Num.nv] at h1
       simp
       omega
     have hcz := hcs1 0 (by omega)
     rw [hzv, Nat.add_zero] at hcz
     have hBpos : (1 : Int) ≤ (B : Int) := by omega
     have hBne : ¬ ((B : Int) = 0) := by omega
     have hq0 : 0 ≤ (q : Int) := by omega
     have hqz : (q : Int) < (z0.length : Int) := by omega
     have h1z : (0 : Int) < (z1.length : Int) := by omega
     have hHR := Aside0.mk RO10
     clear RO10 RO9 hsm hcs1
     have hwB : IntKind.u64.wrap (B : Int) = (B : Int) := u64_nat B (by omega)
     have hB0b : ((B : Int) == 0) = false := by simpa using hB0
     have hlo10 : W3.heap.size ≤ go := (hgo.out go rfl).1
     refine wpIn_piece _ (nat_DivMod.reg12 l w.heap.size w4.heap.size (w4.heap.size + 1) q m B b1 off1 go z1.length cz1 z0.length co w10 _ hcB10 hcO10 hcz hcq hfq hB0 hB32 hmB hqz h1z) ?_
     rintro a W12 ⟨x40, x41, x42, x43, x44, x45, x46, x47, x48, x49, rfl, hW12⟩
     have hT12 : Mem.Turn W3.heap.size (w4.heap.size + 1 + 1) W W12 := by rw [hW12]; exact (hT10.trans (Mem.Turn.drew _ _ w10)).trans (Mem.Turn.set w10.drew q (b := go) (by omega) (by omega) _)
     have bB12 : Boxed W12 w.heap.size 30 (.slice (some ⟨b1, off1, none⟩) z1.length cz1) := by rw [hW12]; exact Mem.boxed_set (W := w10.drew) bB10 q (by omega) _
     have bO12 : Boxed W12 w4.heap.size 30 (.slice (some ⟨go, 0, none⟩) z0.length co) := by rw [hW12]; exact Mem.boxed_set (W := w10.drew) bO10 q (by omega) _
     have bR12 : Boxed W12 (w4.heap.size + 1) 30 (.slice A2 (Num.nd m).length c2) := by rw [hW12]; exact Mem.boxed_set (W := w10.drew) bR10 q (by omega) _
     have R12 := hput
     rw [← hW12] at R12
     have hcz12 : W12.cell? ⟨b1, off1, none⟩ = some (.int .u32 (B : Int)) := by rw [hW12, Mem.cell_set _ (by omega)]; exact hcz
     have hs12 : W.heap.size ≤ W12.heap.size := hT12.ko.size
     clear hput hW12 hcz hcq hfq hcO10 hcB10 hHR
     have hcB12 := bB12.cell
     have hcR12 := bR12.cell
     have hfR12 := bR12.frozen
     have hmm : m % B < 18446744073709551616 := Nat.lt_trans (Nat.mod_lt _ (by omega)) (by omega)
     obtain ⟨kf, hkf⟩ := nat_Of.ev (m % B) hmm
     have hof : Aside0 (nat_Of.f kf ((m : Int) % (B : Int)) = some (Num.nd (m % B))) := ⟨by rw [← Int.natCast_emod]; exact hkf kf (Nat.le_refl _)⟩
     have hrem : IntKind.u64.wrap ((m : Int) % (B : Int)) = (m : Int) % (B : Int) := by rw [← Int.natCast_emod]; exact u64_nat _ hmm
     clear hkf
     gi_wp2_with (refine ⟨trivial, ?_⟩; gi_at_call 40; (with_reducible refine (CallsIn.inRound l (callsIn_wide.2 (nat_Of.calls _ _ _ _ hof.out))).mono ?_); rintro e w13 ⟨v3, rfl, ho3, hb3⟩; obtain ⟨A3, c3, hv3⟩ := Kd.R_slice ho3; subst hv3; have bR13 : Boxed w13 (w4.heap.size + 1) 30 (.slice A2 (Num.nd m).length c2) := (hb3.block _ bR12.lt).trans bR12; have hcR13 := bR13.cell; have hfR13 := bR13.frozen)
     have hT13 := hT12.trans (Mem.Turn.below hb3 (by omega) (by omega))
     have bO13 : Boxed w13 w4.heap.size 30 (.slice (some ⟨go, 0, none⟩) z0.length co) := (hb3.block _ bO12.lt).trans bO12
     have R13' := Kd.R_below R12 hb3
     refine HEND.out _ (.slice A3 (Num.nd (m % B)).length c3) (hT13.trans (Mem.Turn.set w13 0 (b := w4.heap.size + 1) (by omega) (by omega) _)) (Mem.boxed_set bO13 0 (by omega) _) (Kd.R_far R13' (p := ⟨w4.heap.size + 1, 0, none⟩) (fun k hk => by have := (hgo.out k hk.symm).2; simp only; omega) _) (bR13.set _) ?_
     refine Kd.V_mono (Kd.R_V (Kd.R_far (p := ⟨w4.heap.size + 1, 0, none⟩) (Kd.R_mono (Kd.R_bound ho3) (ok' := fun k => W12.heap.size ≤ k) (fun k hk => hk.2.1)) (fun k hk => by simp only; omega) _)) (fun k hk => by omega)
   ·have ht1 : ((z1.length : Int) == 1) = false := by
     have : ¬ (z1.length : Int) = 1 := by omega
     simpa using this
    have hdg := nat_digit.ev HW1.out (by omega) (by rw [HZB.out]; exact hB0) m (by rw [HZB.out]; exact hmB)
    rw [HZB.out] at hdg
    obtain ⟨kd, hkd⟩ := hdg
    have HDG : Aside0 (nat_digit.f kd (Num.nd m) z1 = some (((m / B : Nat) : Int), Num.nd (m % B))) := ⟨hkd kd (Nat.le_refl _)⟩
    have hlm : (Num.nd m).length ≤ z1.length + 1 := Num.nd_length_le (by
     have h1 := Num.nv_lt HW1.out
     rw [HZB.out] at h1
     rw [Nat.mul_add, Nat.pow_add, Nat.mul_comm (2 ^ (32 * z1.length))]
     exact Nat.lt_of_lt_of_le hmB (Nat.mul_le_mul_left 4294967296 (Nat.le_of_lt h1)))
    clear hl1e hkd
    gi_wp2_with (first | (gi_at_builtin; refine Mem.wpListIn_append_rows W.heap.size rfl (.tmp 28) (.tmp 29) 30 92 rfl Try.underlying30 info92 (.slice (some ⟨W.heap.size, 0, none⟩) 1 1) [(u : Int)] (Num.nd R) Ar (Num.nd R).length cr rfl rfl (Mem.R_lit1 W _ _) (Kd.C_alloc HLR.out _) (by simp) hlr4 ?_; intro v1 w1 hv1 hg1; rw [← HL1.out] at hv1; obtain ⟨A1', c1', hv1'⟩ := Kd.R_slice hv1; subst hv1'; have hW1 : Below W.heap.size W w1 := ((Below.refl W.heap.size W).alloc (Nat.le_refl _) _).grown hg1 (by simp) (fun k hk => by simp [Value.ownBlock] at hk; omega)) | (refine ⟨trivial, ?_⟩; gi_at_call 71; (with_reducible refine (CallsIn.inRound l (callsIn_wide.2 (nat_trim.calls _ _ _ L1 _ _ (Kd.R_reads' hv1).2.2 (Kd.R_reads' hv1).2.1 HTr1.out))).mono ?_); rintro e w2 ⟨v2, rfl, ho2, hb2⟩; obtain ⟨A2, c2, hv2⟩ := Kd.R_slice ho2; subst hv2; have hW2 : Below W.heap.size W w2 := hW1.trans (hb2.mono hW1.size); have bR2 : Boxed w2 (w4.heap.size + 1) 30 (.slice Ar (Num.nd R).length cr) := (hW2.block _ bR'.lt).trans bR'; have hcR2 := bR2.cell; have hfR2 := bR2.frozen; have bR9 := bR2.set (.slice A2 (Num.nd m).length c2); have hcR9 := bR9.cell; have bB9 : Boxed (w2.setCell ⟨w4.heap.size + 1, 0, none⟩ (.slice A2 (Num.nd m).length c2)) w.heap.size 30 (.slice Az1 z1.length cz1) := Boxed.other ((hW2.block _ bBW.lt).trans bBW) (by omega) _; have hcB9 := bB9.cell; have ho9 := Kd.R_far (p := ⟨w4.heap.size + 1, 0, none⟩) (Kd.R_mono (Kd.R_bound ho2) (ok' := fun k => w1.heap.size ≤ k) (fun k hk => hk.2.1)) (fun k hk => by have := hW1.size; have := bR'.lt; simp only; omega) (.slice A2 (Num.nd m).length c2)))
    have hT2 : Mem.Turn W3.heap.size (w4.heap.size + 1 + 1) W w2 := Mem.Turn.below hW2 hsB0 hBsW
    have hT9 := hT2.trans (Mem.Turn.set w2 0 (b := w4.heap.size + 1) (by omega) (by omega) (.slice A2 (Num.nd m).length c2))
    have hs9 : w2.heap.size ≤ (w2.setCell ⟨w4.heap.size + 1, 0, none⟩ (.slice A2 (Num.nd m).length c2)).heap.size := by simp [World.setCell]
    have hs2 := hW2.size
    have hsw1 := hW1.size
    have bO9 : Boxed (w2.setCell ⟨w4.heap.size + 1, 0, none⟩ (.slice A2 (Num.nd m).length c2)) w4.heap.size 30 (.slice Ao z0.length co) := Mem.boxed_set ((hW2.block _ bO'.lt).trans bO') 0 (by omega) _
    have RO9 := Kd.R_far (p := ⟨w4.heap.size + 1, 0, none⟩) (Kd.R_below HRO.out hW2) (fun k hk => by have := (hgo.out k hk.symm).2; simp only; omega) (.slice A2 (Num.nd m).length c2)
    have hC1 : Kd.C (Kd.int .u32) (w2.setCell ⟨w4.heap.size + 1, 0, none⟩ (.slice A2 (Num.nd m).length c2)) Az1 z1.length z1 := Kd.C_below (Kd.R_reads' R13).2.2 (HB.out.trans hT9.kb.1)
    have hV9 := Kd.V_mono (Kd.R_V (base' := (w2.setCell ⟨w4.heap.size + 1, 0, none⟩ (.slice A2 (Num.nd m).length c2)).heap.size) ho9) (ok' := fun k => W5.heap.size ≤ k) (fun k hk => Nat.le_trans (by omega) hk)
    generalize (w2.setCell ⟨w4.heap.size + 1, 0, none⟩ (.slice A2 (Num.nd m).length c2)) = W9 at hT9 hs9 bR9 hcR9 bB9 hcB9 ho9 bO9 RO9 hC1 hV9 ⊢
    have hOl := (Kd.R_reads' RO9).1
    obtain ⟨go, cap, hge, hg1, hg2, _⟩ := Kd.R_form RO9 (by omega)
    rw [← hOl] at hge
    obtain ⟨hAo, hco⟩ : Ao = some ⟨go, 0, none⟩ ∧ co = cap := by
     injection hge with e1 e2 e3
     exact ⟨e1, e3⟩
    have hgo4 := (hgo.out go (by rw [hAo]; rfl)).2
    have hlo9 : W3.heap.size ≤ go := (hgo.out go (by rw [hAo]; rfl)).1
    subst hAo
    subst hco
    obtain ⟨hcq, hfq⟩ := Kd.R_celln 0 RO9 (q : Int) (by omega) (by omega)
    simp only [Int.toNat_natCast] at hcq hfq
    refine wpIn_piece _ (nat_DivMod.reg14 l w.heap.size w4.heap.size (w4.heap.size + 1) q m B W5.heap.size go cz1 z0.length co c2 kd Az1 A2 z1 W9 _ bB9.cell bO9.cell bR9.cell bR9.frozen hC1 (Kd.R_reads' R13).2.1 hV9 hcq hfq (by omega) (by omega) bO9.lt bB9.lt bR9.lt (by omega) (by omega) HDG.out) ?_
    rintro a W12 ⟨x57, x58, x59, x60, x61, x62, x63, x64, x65, v1, w10, rfl, hW12, hb10, hv10⟩
    have hs10 := hb10.size
    have RO10 := (Kd.R_putg (Kd.R_below RO9 hb10) (q : Int) ((m / B : Nat) : Int)).1
    simp only [Int.toNat_natCast] at RO10
    have bO10 : Boxed w10 w4.heap.size 30 (.slice (some ⟨go, 0, none⟩) z0.length co) := (hb10.block _ bO9.lt).trans bO9
    have bR10 : Boxed w10 (w4.heap.size + 1) 30 (.slice A2 (Num.nd m).length c2) := (hb10.block _ bR9.lt).trans bR9
    have hT10 := (hT9.trans (Mem.Turn.below hb10 (by omega) (by omega))).trans (Mem.Turn.set w10 q (b := go) (by omega) (by omega) (.int .u32 ((m / B : Nat) : Int)))
    have bO11 := Mem.boxed_set bO10 q (b := go) (by omega) (.int .u32 ((m / B : Nat) : Int))
    have bR11 := Mem.boxed_set bR10 q (b := go) (by omega) (.int .u32 ((m / B : Nat) : Int))
    have hv11 := Kd.V_far (p := ⟨go, q, none⟩) hv10 (fun k hk => by simp only; omega) (.int .u32 ((m / B : Nat) : Int))
    rw [hW12]
    refine HEND.out _ v1 (hT10.trans (Mem.Turn.set _ 0 (b := w4.heap.size + 1) (by omega) (by omega) _)) (Mem.boxed_set bO11 0 (by omega) _) (Kd.R_far RO10 (p := ⟨w4.heap.size + 1, 0, none⟩) (fun k hk => by have := (hgo.out k hk.symm).2; simp only; omega) _) (bR11.set _) (Kd.V_far (p := ⟨w4.heap.size + 1, 0, none⟩) hv11 (fun k hk => by simp only; omega) _)
  case done =>
   rintro D ys W hD rfl ⟨hB5W, bO', RO', vr, bR', VR'⟩ hK
   have hB := hB5.trans hB5W
   obtain ⟨qs, hq1, hq2, hq3, hq4⟩ := nat_DivMod.st_range z0 HW0.out HN.out z0.length (Nat.le_refl _)
   have hnz : Num.nv z0 = Num.nv l0 := by rw [HZ0.out, Num.nv_nd]
   rw [Nat.sub_self, List.drop_zero, hnz] at hq3 hq4
   rw [List.replicate_zero, List.nil_append] at hq4
   rw [hq4] at RO' VR'
   simp only at RO' VR'
   obtain ⟨Avr, cvr, hvr⟩ := Kd.V_slice VR'
   subst hvr
   obtain ⟨kt, hkt⟩ := nat_trim.ev hq2 (by rw [hq1]; omega)
   rw [hq3] at hkt
   have HT15 : Aside0 (nat_trim.f kt qs = some (Num.nd (Num.nv l0 / Num.nv l1))) := ⟨hkt kt (Nat.le_refl _)⟩
   have hRO := (Kd.R_reads' RO').2.2
   have hRc := (Kd.R_reads' RO').2.1
   rw [← hq1] at hRc
   have HRO := Aside0.mk hRO
   have HRC := Aside0.mk hRc
   have HVR := Aside0.mk VR'
   have HB := Aside0.mk hB
   have HB3 := Aside0.mk hB3
   have hcO := bO'.cell
   have hcR := bR'.cell
   rw [← hq1] at hcO
   have HK := Aside0.mk hK
   clear hq1 hq2 hq3 hq4 hkt hRO hRc RO' VR' hB HZ0 row0 row1 RO R03 R13 hK
   gi_wp2
   go_wp2
   refine wp_piece (fun a W3' => ∃ At nt ct, a = { tmps := (Value.slice Az0 z0.length cz0 :: Value.slice A1 l1.length c1 :: undef :: Value.pointer (some ⟨w.heap.size, 0, none⟩) :: Value.slice At nt ct :: Value.slice Avr (Num.nd (Num.nv l0 % Num.nv l1)).length cvr :: Value.int .i64 0 :: Value.pointer (some ⟨w4.heap.size, 0, none⟩) :: Value.pointer (some ⟨w4.heap.size + 1, 0, none⟩) :: undef :: undef :: undef :: undef :: Value.slice A0 l0.length c0 :: Value.slice Az0 z0.length cz0 :: Value.slice A1 l1.length c1 :: Value.slice Az1 z1.length cz1 :: Value.slice Az1 z1.length cz1 :: Value.int .i64 (z1.length : Int) :: Value.bool false :: Value.slice Az0 z0.length cz0 :: Value.int .i64 (z0.length : Int) :: Value.slice Ao z0.length co :: Value.slice Az0 z0.length cz0 :: Value.func (.func 104) #[] #[.pointer (some ⟨w4.heap.size + 1 + 1, 0, none⟩)] :: undef :: undef :: undef :: undef :: undef :: undef :: undef :: undef :: undef :: undef :: undef :: undef :: undef :: undef :: undef :: undef :: undef :: undef :: undef :: undef :: undef :: undef :: undef :: undef :: undef :: undef :: undef :: undef :: undef :: undef :: undef :: undef :: undef :: undef :: undef :: undef :: undef :: undef :: undef :: undef :: undef :: Value.slice Ao qs.length co :: Value.slice At nt ct :: Value.slice Avr (Num.nd (Num.nv l0 % Num.nv l1)).length cvr :: []).toArray, defers := [{ target := .collected D, args := #[] }] } ∧ Kd.R (Kd.int .u32) 92 W3' W.heap.size (fun _ => True) (.slice At nt ct) (Num.nd (Num.nv l0 / Num.nv l1)) ∧ Below W.heap.size W W3') ?_ ?_
   ·go_region_with (go_at_call 71; (with_reducible refine (nat_trim.calls _ _ _ qs _ _ (Kd.C_below HRO.out (Below.drew (Below.refl _ W))) HRC.out HT15.out).mono ?_); rintro e w15 ⟨v15, rfl, ho15, hb15⟩; obtain ⟨At, ct, hvt⟩ := Kd.R_slice ho15; subst hvt; have hcR15 := (hb15.cell (p := ⟨w4.heap.size + 1, 0, none⟩) bR'.lt).trans hcR)
    all_goals exact ⟨_, _, _, rfl, ho15, (Below.drew (Below.refl _ W)).trans hb15⟩
   rintro a W15 ⟨At, nt, ct, rfl, ho15, hb15⟩
   refine only_then ?_
   have hK15 : W15.heap[D]? = some (.deferred (some [])) := (hb15.block D (Array.getElem?_eq_some_iff.1 HK.out).1).trans HK.out
   go_wp2
   have hs15 := hb15.size
   have hsB := HB.out.size
   have hsB3 := HB3.out.size
   have hsW5 := hB5W.size
   have hs35 := hB5.size
   refine ⟨(by intro e; cases e), .inl ⟨D, W15.putObj D (.deferred none), rfl, run_takeDeferred hK15, ?_⟩⟩
   refine ⟨_, results_tmp3 rfl _ _ _, _, _, rfl, ?_, ?_, ?_⟩
   ·exact (Mem.R_own (β := Unit) 92 w.heap.size _ _ (fun _ => Num.nd (Num.nv l0 / Num.nv l1))).putObj (s := ()) _ (Kd.R_lower (Kd.R_mono (Kd.R_bound ho15) (ok' := fun k => w.heap.size ≤ k) (fun k hk => Nat.le_trans (by omega) hk.2.1)) (by omega)) hK15 rfl
   ·exact Mem.V_put (Kd.V_mono (Kd.V_elder' HVR.out (fun k hk => Kd.R_base ho15 k hk) hb15) (fun k hk => ⟨by omega, hk.2⟩)) hK15 rfl _
   ·exact ((HB3.out.trans (HB.out.mono hsB3)).trans (hb15.mono (by omega))).trans (belowK_b (w := W5) (by omega) W15 D _ _ hD hK15 rfl rfl)
  case stop =>
   rintro D c pre W _ _ h _
   exact h.elim
set_option synthInstance.checkSynthOrder false in
open Lin in
instance nat_DivMod.t {_k : Nat} {l0 : List Int} {l1 : List Int} {r : List Int × List Int × Int} [h : Ans (nat_DivMod.f _k l0 l1) r] : Tl Try.prog 75 [.one (.row l0), .one (.row l1)] (.tup [.one (.row r.1), .one (.row r.2.1), .one (.val (.int .i64 r.2.2))]) := ⟨Tells.of Try.func75 fun out w vs ho hl hv => by
 obtain ⟨u0, u1, rfl, h0, h1⟩ := args2 hl hv
 obtain ⟨A0, c0, rfl, hc0, hr0, hb0⟩ := h0
 obtain ⟨A1, c1, rfl, hc1, hr1, hb1⟩ := h1
 refine (nat_DivMod.calls _k A0 c0 l0 A1 c1 l1 _ _ _ w hr0 hc0 hr1 hc1 h.out).mono ?_
 rintro e w' ⟨v0_, v1_, rfl, gv0_, gv1_, hb⟩
 exact ⟨_, rfl, tup3 (row_R gv0_ ho) (row_V gv1_ (fun b hb hk => Nat.not_le.2 (ho b hb) hk.1)) (⟨rfl, rfl⟩), hb⟩⟩
end
def nat_Gcd.l0 : Nat → List Int → List Int → Option (List Int)
 | 0, _, _ => none
 | k + 1, x0, x1 => if (x1.length : Int) > 0 then ((nat_DivMod.f k x0 x1).bind fun bt198 => (nat_Gcd.l0 k x1 bt198.2.1)) else (some x0)
def nat_Gcd.f (k : Nat) (l0 : List Int) (l1 : List Int) : Option (List Int) := (nat_trim.f k l0).bind fun t192 => ((nat_trim.f k l1).bind fun t195 => (nat_Gcd.l0 k t192 t195))
set_option maxHeartbeats 8000000 in
set_option maxRecDepth 100000 in
theorem nat_Gcd.calls (k : Nat) (A0 : Option Addr) (c0 : Nat) (l0 : List Int) (A1 : Option Addr) (c1 : Nat) (l1 : List Int) (r : List Int) (w : World) (hr0 : Kd.C (Kd.int .u32) w A0 l0.length l0) (hc0 : l0.length ≤ c0) (hr1 : Kd.C (Kd.int .u32) w A1 l1.length l1) (hc1 : l1.length ≤ c1) (h : nat_Gcd.f k l0 l1 = some r) :
  Calls Try.prog 74 #[.slice A0 l0.length c0, .slice A1 l1.length c1] w fun e w' => ∃ v0_ : Value, e = .returned (v0_) ∧ Kd.V (Kd.int .u32) 92 w' w.heap.size (fun k_ => (w.heap.size ≤ k_)) v0_ r ∧ Below w.heap.size w w' := by
 have HR0 := Aside0.mk hr0
 have HC0 := Aside0.mk hc0
 clear hr0 hc0
 have HR1 := Aside0.mk hr1
 have HC1 := Aside0.mk hc1
 clear hr1 hc1
 have HB := Aside0.mk (Below.refl w.heap.size w)
 have H : ((nat_trim.f k l0).bind fun t192 => ((nat_trim.f k l1).bind fun t195 => (nat_Gcd.l0 k t192 t195))) = some r := h
 clear h
 replace H := Option.bind_eq_some_iff.mp H
 obtain ⟨t192, A30, H⟩ := H
 try dsimp only at H
 have A3 := Aside0.mk A30
 clear A30
 replace H := Option.bind_eq_some_iff.mp H
 obtain ⟨t195, A40, H⟩ := H
 replace H : (nat_Gcd.l0 k t192 t195) = some r := H
 have A4 := Aside0.mk A40
 clear A40
 have H' := Aside0.mk H
 clear H
 go_enter Try.func74, Try.ntmps74
 go_wp2_with (first | ((with_reducible refine gate_callee (f := 71) rfl ?_); refine Short.goesS_ (some 9) Try.func71 #[.slice A0 l0.length c0] ?_; (with_reducible refine (nat_trim.calls k _ _ l0 t192 _ HR0.out HC0.out A3.out).mono ?_); rintro e w5 ⟨v193, rfl, ho0, hb⟩; refine ⟨_, rfl, ?_⟩; have HO194 := Aside0.mk (Kd.R_lower (Kd.R_newM (M := fun k_ => (w.heap.size ≤ k_)) ho0 (below_size (by repeat (first | (with_reducible first | exact HB.out | apply below_alloc | apply pw_below_drewN | apply below_drew1) | exact HB.out))) (fun k_ h_ => h_)) (below_size (by repeat (first | (with_reducible first | exact HB.out | apply below_alloc | apply pw_below_drewN | apply below_drew1) | exact HB.out)))); replace HB := Aside0.mk (below_step (by repeat (first | (with_reducible first | exact HB.out | apply below_alloc | apply pw_below_drewN | apply below_drew1) | exact HB.out)) hb); (try clear hb); (try clear ho0)) | ((with_reducible refine gate_callee (f := 71) rfl ?_); refine Short.goesS_ (some 11) Try.func71 #[.slice A1 l1.length c1] ?_; (with_reducible refine (nat_trim.calls k _ _ l1 t195 _ (Kd.C_below HR1.out HB.out) HC1.out A4.out).mono ?_); rintro e w6 ⟨v196, rfl, ho0, hb⟩; refine ⟨_, rfl, ?_⟩; have HO197 := Aside0.mk (Kd.R_lower (Kd.R_new' (Kd.R_newM (M := fun k_ => (w.heap.size ≤ k_)) ho0 (below_size (by repeat (first | (with_reducible first | exact HB.out | apply below_alloc | apply pw_below_drewN | apply below_drew1) | exact HB.out))) (fun k_ h_ => h_)) (Kd.R_lt HO194.out)) (below_size (by repeat (first | (with_reducible first | exact HB.out | apply below_alloc | apply pw_below_drewN | apply below_drew1) | exact HB.out)))); replace HO194 := Aside0.mk (Kd.R_elder' HO194.out (Kd.R_base ho0) hb); replace HB := Aside0.mk (below_step (by repeat (first | (with_reducible first | exact HB.out | apply below_alloc | apply pw_below_drewN | apply below_drew1) | exact HB.out)) hb); (try clear hb); (try clear ho0)))
 go_loopg [0, 1] k (fun kq v0 v1 w' => ∃ (x0_1 : List Int) (x1_1 : List Int), Aside0 (nat_Gcd.l0 kq x0_1 x1_1 = some r) ∧ Aside0 (kq ≤ k) ∧ Aside0 (Kd.V (Kd.int .u32) 92 w' w.heap.size (fun k_ => (w.heap.size ≤ k_)) v0 x0_1) ∧ Aside0 (Kd.V (Kd.int .u32) 92 w' w.heap.size (fun k_ => (w.heap.size ≤ k_)) v1 x1_1) ∧ Aside0 (Below w.heap.size w w'))
 case atStart => exact ⟨(t192), (t195), H', ⟨Nat.le_refl _⟩, ⟨Kd.R_V (by (with_reducible repeat (first | apply Kd.R_alloc | apply Kd.R_drewN | apply Kd.R_drew)); exact Kd.R_mono HO194.out (fun _ hk => hk.1.1))⟩, ⟨Kd.R_V (by (with_reducible repeat (first | apply Kd.R_alloc | apply Kd.R_drewN | apply Kd.R_drew)); exact Kd.R_mono HO197.out (fun _ hk => hk.1.1))⟩, ⟨by repeat (first | (with_reducible first | exact HB.out | apply below_alloc | apply pw_below_drewN | apply below_drew1) | exact HB.out)⟩⟩
 case round =>
  clear H'
  try clear c1
  try clear p2
  obtain ⟨x0_1, x1_1, HA, HK1, HO_0, HO_1, HB⟩ := hrel
  cases gk with
  | zero => exact absurd HA.out (by simp [nat_Gcd.l0])
  | succ k1 =>
   have H := HA.out
   clear HA
   simp only [nat_Gcd.l0] at H
   by_cases c7 : (x1_1.length : Int) > 0
   ·rw [if_pos c7] at H
    have c7b0 : decide (0 < (x1_1.length : Int)) = true := decide_eq_true c7
    have c7b1 : decide (0 < x1_1.length) = true := decide_eq_true (by omega)
    clear c7
    replace H := Option.bind_eq_some_iff.mp H
    obtain ⟨⟨t198, t201, t204⟩, A80, H⟩ := H
    replace H : (nat_Gcd.l0 k1 x1_1 t201) = some r := H
    have A8 := Aside0.mk A80
    clear A80
    have H' := Aside0.mk H
    clear H
    obtain ⟨Ao9, co9, eo9⟩ := Kd.V_slice HO_1.out
    subst eo9
    obtain ⟨Ao10, co10, eo10⟩ := Kd.V_slice HO_0.out
    subst eo10
    go_wp2_with (first | ((with_reducible refine gate_callee (f := 75) rfl ?_); refine Short.goesS_ (some 18) Try.func75 #[.slice Ao10 x0_1.length co10, .slice Ao9 x1_1.length co9] ?_; (with_reducible refine (nat_DivMod.calls k1 _ _ x0_1 _ _ x1_1 t198 t201 t204 _ ((Kd.V_reads' HO_0.out).2.2) ((Kd.V_reads' HO_0.out).2.1) ((Kd.V_reads' HO_1.out).2.2) ((Kd.V_reads' HO_1.out).2.1) A8.out).mono ?_); rintro e w11 ⟨v199, v202, rfl, ho0, ho1, hb⟩; refine ⟨_, rfl, ?_⟩; replace HO_0 := Aside0.mk (Kd.V_elder' HO_0.out (Kd.R_base ho0) hb); replace HO_1 := Aside0.mk (Kd.V_elder' HO_1.out (Kd.R_base ho0) hb); have HO200 := Aside0.mk (Kd.R_lower (Kd.R_newM (M := fun k_ => (w.heap.size ≤ k_)) (Kd.R_mono (ok' := fun k_ => True) ho0 (fun _ hk_ => trivial)) (below_size (by repeat (first | (with_reducible first | exact HB.out | apply below_alloc | apply pw_below_drewN | apply below_drew1) | exact HB.out))) (fun k_ h_ => h_)) (below_size (by repeat (first | (with_reducible first | exact HB.out | apply below_alloc | apply pw_below_drewN | apply below_drew1) | exact HB.out)))); have HO203 := Aside0.mk (Kd.V_lower (Kd.V_mono (ok' := fun k_ => (w.heap.size ≤ k_) ∧ some k_ ≠ (v199 : Value).ownBlock) ho1 (fun k_ hk_ => ⟨(Nat.le_trans (below_size (by repeat (first | (with_reducible first | exact HB.out | apply below_alloc | apply pw_below_drewN | apply below_drew1) | exact HB.out))) hk_.1), hk_.2⟩)) (below_size (by repeat (first | (with_reducible first | exact HB.out | apply below_alloc | apply pw_below_drewN | apply below_drew1) | exact HB.out)))); replace HB := Aside0.mk (below_step (by repeat (first | (with_reducible first | exact HB.out | apply below_alloc | apply pw_below_drewN | apply below_drew1) | exact HB.out)) hb); (try clear hb); (try clear ho0); (try clear ho1)))
    go_roundg k1
    case measure => have := HK1.out; omega
    case rel => exact ⟨(x1_1), (t201), H', ⟨by have := HK1.out; omega⟩, ⟨by (with_reducible repeat (first | apply Kd.V_alloc | apply Kd.V_drewN | apply Kd.V_drew)); exact Kd.V_mono HO_1.out (fun _ hk => hk.1)⟩, ⟨by (with_reducible repeat (first | apply Kd.V_alloc | apply Kd.V_drewN | apply Kd.V_drew)); exact Kd.V_mono HO203.out (fun _ hk => hk.1)⟩, ⟨by repeat (first | (with_reducible first | exact HB.out | apply below_alloc | apply pw_below_drewN | apply below_drew1) | exact HB.out)⟩⟩
   ·rw [if_neg c7] at H
    have c7b0 : decide (0 < (x1_1.length : Int)) = false := decide_eq_false c7
    have c7b1 : decide (0 < x1_1.length) = false := decide_eq_false (by omega)
    clear c7
    obtain rfl := Option.some.inj H
    obtain ⟨Ao12, co12, eo12⟩ := Kd.V_slice HO_1.out
    subst eo12
    go_wp2
    go_ret
    exact ⟨_, by rfl, by (with_reducible repeat (first | apply Kd.V_alloc | apply Kd.V_drewN | apply Kd.V_drew)); exact HO_0.out, by repeat (first | (with_reducible first | exact HB.out | apply below_alloc | apply pw_below_drewN | apply below_drew1) | exact HB.out)⟩

theorem nat_Gcd.ev_l {K : Nat} (hK : K < 1000000) (b : Nat) : ∀ a : Nat, a < 2 ^ (32 * K) → b < 2 ^ (32 * K) → Ev (fun k => nat_Gcd.l0 k (Num.nd a) (Num.nd b)) (Num.nd (Nat.gcd a b)) := by
 induction b using Nat.strongRecOn with
 | ind b ih =>
  intro a ha hb
  by_cases h0 : b = 0
  ·subst h0
   rw [Nat.gcd_zero_right]
   refine Ev.step (f := fun _ => some (Num.nd a)) (fun k => ?_) (Ev.now _)
   rw [nat_Gcd.l0, Num.nd_zero, if_neg (by rw [List.length_nil]; omega)]
  ·have h2 : 0 < (Num.nd b).length := by
    rcases Nat.eq_zero_or_pos (Num.nd b).length with h | h
    ·exact absurd (Num.nd_eq_nil.1 (List.eq_nil_of_length_eq_zero h)) h0
    ·exact h
   have la := Num.nd_length_le ha
   have lb := Num.nd_length_le hb
   have hm := Nat.mod_lt a (Nat.pos_of_ne_zero h0)
   refine Ev.step (f := fun k => nat_Gcd.l0 k (Num.nd b) (Num.nd (a % b))) (fun k => ?_) ?_
   ·rw [nat_Gcd.l0, if_pos (by omega)]
    unfold nat_DivMod.f
    rw [if_pos ((Num.okd_iff _).2 ⟨by omega, Num.Ws_nd _⟩), if_pos ((Num.okd_iff _).2 ⟨by omega, Num.Ws_nd _⟩), Num.nv_nd, Num.nv_nd, if_neg h0, Option.bind_some]
   ·have := ih (a % b) hm b hb (Nat.lt_trans hm hb)
    rw [Nat.gcd_comm b (a % b), ← Nat.gcd_rec, Nat.gcd_comm b a] at this
    exact this
theorem nat_Gcd.ev {l0 l1 : List Int} {K : Nat} (hK : K < 1000000) (W0 : Num.Ws l0) (W1 : Num.Ws l1) (h0 : l0.length ≤ K) (h1 : l1.length ≤ K) : Ev (fun k => nat_Gcd.f k l0 l1) (Num.nd (Nat.gcd (Num.nv l0) (Num.nv l1))) := by
 unfold nat_Gcd.f
 exact Ev.bind (nat_trim.ev W0 (by omega)) (Ev.bind (nat_trim.ev W1 (by omega)) (nat_Gcd.ev_l hK _ _ (Nat.lt_of_lt_of_le (Num.nv_lt W0) (Nat.pow_le_pow_right (by omega) (by omega))) (Nat.lt_of_lt_of_le (Num.nv_lt W1) (Nat.pow_le_pow_right (by omega) (by omega)))))
set_option synthInstance.checkSynthOrder false in
open Lin in
instance nat_Gcd.t {k : Nat} {l0 : List Int} {l1 : List Int} {r : List Int} [h : Ans (nat_Gcd.f k l0 l1) r] : Tl Try.prog 74 [.one (.row l0), .one (.row l1)] (.el (.one (.row r))) := ⟨Tells.of Try.func74 fun out w vs ho hl hv => by
 obtain ⟨u0, u1, rfl, h0, h1⟩ := args2 hl hv
 obtain ⟨A0, c0, rfl, hc0, hr0, hb0⟩ := h0
 obtain ⟨A1, c1, rfl, hc1, hr1, hb1⟩ := h1
 refine (nat_Gcd.calls k A0 c0 l0 A1 c1 l1 _ w hr0 hc0 hr1 hc1 h.out).mono ?_
 rintro e w' ⟨v0_, rfl, gv0_, hb⟩
 exact ⟨_, rfl, row_V gv0_ (fun b hb hk => Nat.not_le.2 (ho b hb) hk), hb⟩⟩
def rat_Make.f (k : Nat) (a0_0 : Bool) (l0_1 : List Int) (l1 : List Int) : Option (Bool × List Int × List Int) := (rat_den.f k false ([] : List Int) l1).bind fun t207 => ((nat_Gcd.f k l0_1 t207).bind fun t210 => ((nat_DivMod.f k l0_1 t210).bind fun bt213 => ((nat_DivMod.f k t207 t210).bind fun bt220 => ((whole_Make.f k a0_0 bt213.1).bind fun bt227 => (some (bt227.1, bt227.2, bt220.1))))))
theorem rat_Make.ev {m : Bool} {l1 l2 : List Int} {p : Int} {K : Nat} (h : Zn.Is m l1 p K) (hW : Num.Ws l2) (hl : l2.length ≤ K) (hK1 : 1 ≤ K) (hK : K < 400000) : Ev (fun k => rat_Make.f k m l1 l2) (Qn.qd (mkRat p (Qn.dn (Num.nv l2)))) := by
 have hd := Qn.dn_ne (Num.nv l2)
 have W := Qn.ws_dl hW
 have L := Qn.len_dl hl hK1
 have V := Qn.nv_dl l2
 have G := nat_Gcd.ev (K := K) (by omega) h.ws W h.len L
 rw [V] at G
 obtain ⟨g, hg⟩ : ∃ g, g = Nat.gcd (Num.nv l1) (Qn.dn (Num.nv l2)) := ⟨_, rfl⟩
 rw [← hg] at G
 have g0 : g ≠ 0 := by
  have := Nat.gcd_pos_of_pos_right (Num.nv l1) (Nat.pos_of_ne_zero hd)
  omega
 have bd := Qn.dn_lt hW hl hK1
 have bg : g < 2 ^ (32 * K) := Nat.lt_of_le_of_lt (Nat.le_of_dvd (Nat.pos_of_ne_zero hd) (by rw [hg]; exact Nat.gcd_dvd_right _ _)) bd
 have l1K := h.len
 have q1 := (Num.okd_iff l1).2 ⟨by omega, h.ws⟩
 have q2 := (Num.okd_iff (Qn.dl l2)).2 ⟨by omega, W⟩
 have qg := (Num.okd_iff (Num.nd g)).2 ⟨Nat.lt_of_le_of_lt (Num.nd_length_le bg) (by omega), Num.Ws_nd _⟩
 have D1 : ∀ k, nat_DivMod.f k l1 (Num.nd g) = some (Num.nd (Num.nv l1 / g), Num.nd (Num.nv l1 % g), 0) := fun k => by unfold nat_DivMod.f; rw [if_pos q1, if_pos qg, Num.nv_nd, if_neg g0]
 have D2 : ∀ k, nat_DivMod.f k (Qn.dl l2) (Num.nd g) = some (Num.nd (Qn.dn (Num.nv l2) / g), Num.nd (Qn.dn (Num.nv l2) % g), 0) := fun k => by unfold nat_DivMod.f; rw [if_pos q2, if_pos qg, Num.nv_nd, if_neg g0, V]
 have M := whole_Make.ev (Zn.Is.nd (m := m) (Nat.lt_of_le_of_lt (Nat.div_le_self (Num.nv l1) g) (Num.nv_lt_of h.ws h.len))) (by omega)
 have e1 := Qn.num_eq m (Num.nv l1) (Qn.dn (Num.nv l2)) hd
 have e2 := Qn.den_eq m (Num.nv l1) (Qn.dn (Num.nv l2)) hd
 rw [← hg, h.val] at e1 e2
 unfold rat_Make.f Qn.qd
 rw [e1, e2]
 exact Ev.bind (rat_den.ev hW (by omega)) (Ev.bind G (Dec.val D1 (Dec.val D2 (Ev.bind M (Ev.now _)))))
set_option synthInstance.checkSynthOrder false in
open Lin in
set_option maxHeartbeats 4000000 in
instance rat_Make.t {k : Nat} {a0_0 : Bool} {l0_1 : List Int} {l1 : List Int} {r : Bool × List Int × List Int} [h : Ans (rat_Make.f k a0_0 l0_1 l1) r] : Tl Try.prog 42 [.agg [.val (.bool a0_0), .row l0_1], .one (.row l1)] (.el (.agg [.val (.bool r.1), .row r.2.1, .row r.2.2])) := by
 have h := h.out
 unfold rat_Make.f at h
 repeat' (first | (replace h := Lin.bndK h) | (replace h := Lin.bnd h; obtain ⟨_, _, h⟩ := h) | split at h | cases h)
 all_goals exact ⟨Tells.go Try.func42 Try.ntmps42⟩
end Go.Proofs.Ytdhioaoojemcpaa.PR
