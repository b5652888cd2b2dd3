/- Several functions' texts in one file. -/
import Derived.Test.YtcdkopidgibijaaProg
import Derived.Below
import Derived.Deep.Draws
import Derived.Deep.AppendLies
import Derived.Maps.AppendAt
import Derived.OwnWalk
import Derived.Laws.BytesArg
import Derived.Laws.MakeOwn
import Derived.Laws.OwnMore
import Derived.Deep.OwnRows
import Derived.Tactics
import Derived.Lib.ConvBytes
import Derived.Laws.Slices
import Derived.WalkKit
import Derived.KernelRfl
import Derived.RowKit3
import Derived.Deep.LoopGhost
import Derived.Deep.QuietTactic
import Derived.BigQuiet
import Derived.WideLaws
import Derived.Deep.DeepCutAuto
import Derived.Deep.CutBlock
import Derived.Deep.RegionHeld3
import Derived.Laws.Rows
import Derived.Lib.AppendStr
import Derived.ArgAppend
import Derived.Laws.IdiomCopy
import Derived.OrdersHeld
import Derived.Laws.BitsLemmas
import Derived.RowKit
import Derived.Test.YtcdkopidgibijaaWWords
import Derived.Test.YtcdkopidgibijaaWLast
import Derived.Test.YtcdkopidgibijaaWTab
import Derived.Test.YtcdkopidgibijaaWFour
import Derived.Test.YtcdkopidgibijaaWQPut
import Derived.Test.YtcdkopidgibijaaWApart
import Derived.Test.YtcdkopidgibijaaWArr
import Derived.Test.YtcdkopidgibijaaWZeros
import Derived.Test.YtcdkopidgibijaaWFoot
import Derived.Test.YtcdkopidgibijaaWKept
import Derived.Test.YtcdkopidgibijaaWShare
import Derived.Test.YtcdkopidgibijaaWN
import Derived.Test.YtcdkopidgibijaaWFootNe
import Derived.Test.YtcdkopidgibijaaWAt
import Derived.Test.YtcdkopidgibijaaWEqStruct
import Derived.Test.YtcdkopidgibijaaWRepsOne
import Derived.Test.YtcdkopidgibijaaWInv
import Derived.Test.YtcdkopidgibijaaWInvWords
import Derived.Test.YtcdkopidgibijaaWGuard
import Derived.Test.YtcdkopidgibijaaWNEv
import Derived.Test.YtcdkopidgibijaaWMore
import Derived.Test.YtcdkopidgibijaaStr
import Derived.Test.YtcdkopidgibijaaTy
import Derived.WalkSpells
import Derived.Test.YtcdkopidgibijaaNum
import Derived.Test.YtcdkopidgibijaaShort
import Derived.Test.YtcdkopidgibijaaInt
import Derived.Test.YtcdkopidgibijaaDec
import Derived.Test.YtcdkopidgibijaaRow
import Derived.Test.YtcdkopidgibijaaBack
namespace Go.Proofs.Ytcdkopidgibijaa.PR
open Go.RowKit Go.Proofs.YtcdkopidgibijaaW.PrintWords Go.Proofs.YtcdkopidgibijaaW.PrintLast Go.Proofs.YtcdkopidgibijaaW.PrintMore
attribute [local go_sem] max2_int min2_int max_two min_two max_three min_three max_four min_four   -- for this text's walks alone
set_option linter.unusedVariables false
set_option linter.unusedSimpArgs false
def errW : Option Int → Value
  | none => .nilIface
  | some c => .iface 0 (.int .i64 c)
theorem errW_none : errW none = .nilIface := rfl
theorem errW_some (c : Int) : errW (some c) = .iface 0 (.int .i64 c) := rfl

theorem info3 : (Try.prog.info? 3).map (fun i => (i.zero, i.size, i.bytes)) = some (some (.int .i64 0), 1, 8) := by kernel_rfl
theorem info5 : (Try.prog.info? 5).map (fun i => (i.zero, i.size, i.bytes)) = some (some (.int .u8 0), 1, 1) := by kernel_rfl
theorem info89 : (Try.prog.info? 89).map (fun i => (i.zero, i.size, i.bytes)) = some (some (.int .u32 0), 1, 4) := by kernel_rfl
section
open Lin
instance : StrT Try.prog 9 := ⟨Try.underlying9⟩
instance idxByteS_t {s : ByteArray} {c : Int} : Tl Try.prog 101 [.one (.val (.string s)), .one (.val (.int .u8 c))] (.el (.one (.val (.int .i64 (firstIdx s c.toNat.toUInt8))))) := ⟨Tells.ext (e := Extern.BytealgIndexByte.indexByte) Try.func101 (by kernel_rfl) (by kernel_rfl) (by kernel_rfl) (by kernel_rfl) (fun out w vs hl hv => by
  obtain ⟨u1, u2, rfl, h1, h2⟩ := args2 hl hv
  obtain ⟨rfl, _⟩ := h1
  obtain ⟨rfl, _⟩ := h2
  exact ⟨_, run_indexByte_string s c w, rfl, rfl⟩)⟩
instance indexByte_t {s : ByteArray} {c : Int} : Tl Try.prog 97 [.one (.val (.string s)), .one (.val (.int .u8 c))] (.el (.one (.val (.int .i64 (firstIdx s c.toNat.toUInt8))))) := ⟨Tells.goS Try.func97 Try.ntmps97⟩
/-- The text of one dash. -/
def dash : ByteArray := ⟨#[47]⟩
/-- Where the first dash is. -/
structure First (s : ByteArray) (i : Nat) : Prop where
  lt : i < s.size
  at_ : s[i]! = 47
  no : ∀ j, j < i → s[j]! ≠ 47
theorem First.idx {s : ByteArray} {i : Nat} (h : First s i) : firstIdx s 47 = (i : Int) := by
  unfold firstIdx
  have : (List.range s.size).find? (fun i => s[i]! == 47) = some i := by
    rw [List.find?_range_eq_some]
    exact ⟨by rw [h.at_]; rfl, List.mem_range.2 h.lt, fun j hj => by simpa using h.no j hj⟩
  rw [this]
theorem none_idx {s : ByteArray} (h : ∀ j, j < s.size → s[j]! ≠ 47) : firstIdx s 47 = -1 := by
  unfold firstIdx
  have : (List.range s.size).find? (fun i => s[i]! == 47) = none := by
    rw [List.find?_range_eq_none]
    exact fun j hj => by simpa using h j hj
  rw [this]
theorem first_or (s : ByteArray) : (∃ i, First s i) ∨ ∀ j, j < s.size → s[j]! ≠ 47 := by
  by_cases h : ∃ i, i < s.size ∧ s[i]! = 47
  · left
    have key : ∀ n i, i ≤ n → i < s.size → s[i]! = 47 → ∃ i, First s i := by
      intro n
      induction n with
      | zero => intro i h0 h1 h2; exact ⟨i, h1, h2, fun j hj => by omega⟩
      | succ n ih =>
        intro i h0 h1 h2
        by_cases hj : ∃ j, j < i ∧ s[j]! = 47
        · obtain ⟨j, h3, h4⟩ := hj
          exact ih j (by omega) (by omega) h4
        · exact ⟨i, h1, h2, fun j h3 h4 => hj ⟨j, h3, h4⟩⟩
    obtain ⟨i, h1, h2⟩ := h
    exact key i i (Nat.le_refl _) h1 h2
  · exact .inr fun j h1 h2 => h ⟨j, h1, h2⟩
theorem dash_eq {s : ByteArray} (h : ((⟨#[47]⟩ : ByteArray).toList == s.toList) = true) : firstIdx s 47 = 0 := by
  have e : s = ⟨#[47]⟩ := by
    have h1 : (⟨#[47]⟩ : ByteArray).toList = s.toList := by simpa using h
    rw [ByteArray.toList_eq, ByteArray.toList_eq] at h1
    exact ByteArray.ext (Array.toList_inj.1 h1.symm)
  subst e
  exact First.idx (i := 0) ⟨by decide, by decide, fun j hj => by omega⟩
theorem index_t {s : ByteArray} : Tl Try.prog 95 [.one (.val (.string s)), .one (.val (.string ⟨#[47]⟩))] (.el (.one (.val (.int .i64 (firstIdx s 47))))) := by
  cases hc : ((⟨#[47]⟩ : ByteArray).toList == s.toList) with
  | true =>
    rw [dash_eq hc]
    exact ⟨Tells.goS Try.func95 Try.ntmps95⟩
  | false => exact ⟨Tells.goS Try.func95 Try.ntmps95⟩
theorem lcut_some {s : ByteArray} {i : Nat} (h : First s i) (hs : s.size < 1000000) : Tl Try.prog 91 [.one (.val (.string s)), .one (.val (.string ⟨#[47]⟩))] (.tup [.one (.val (.string (s.extract 0 i))), .one (.val (.string (s.extract (i + 1) s.size))), .one (.val (.bool true))]) := by
  have I := index_t (s := s)
  rw [h.idx] at I
  have c1 : decide ((i : Int) ≥ 0) = true := decide_eq_true (Int.natCast_nonneg i)
  have h1 : i ≤ s.size := Nat.le_of_lt h.lt
  have h2 : i + 1 ≤ s.size := h.lt
  have w1 : wrap64 ((i : Int) + ((⟨#[47]⟩ : ByteArray).size : Int)) = Int.ofNat (i + 1) := by
    show wrap64 ((i : Int) + 1) = ((i + 1 : Nat) : Int)
    unfold wrap64
    omega
  exact ⟨Tells.goS Try.func91 Try.ntmps91⟩
theorem lcut_none {s : ByteArray} (h : ∀ j, j < s.size → s[j]! ≠ 47) : Tl Try.prog 91 [.one (.val (.string s)), .one (.val (.string ⟨#[47]⟩))] (.tup [.one (.val (.string s)), .one (.val (.string ⟨#[]⟩)), .one (.val (.bool false))]) := by
  have I := index_t (s := s)
  rw [none_idx h] at I
  exact ⟨Tells.goS Try.func91 Try.ntmps91⟩
theorem cut_some {s : ByteArray} {i : Nat} (h : First s i) (hs : s.size < 1000000) : Tl Try.prog 72 [.one (.val (.string s)), .one (.val (.string ⟨#[47]⟩))] (.tup [.one (.val (.string (s.extract 0 i))), .one (.val (.string (s.extract (i + 1) s.size))), .one (.val (.bool true))]) := by
  have I := lcut_some h hs
  exact ⟨Tells.goS Try.func72 Try.ntmps72⟩
theorem cut_none {s : ByteArray} (h : ∀ j, j < s.size → s[j]! ≠ 47) : Tl Try.prog 72 [.one (.val (.string s)), .one (.val (.string ⟨#[47]⟩))] (.tup [.one (.val (.string s)), .one (.val (.string ⟨#[]⟩)), .one (.val (.bool false))]) := by
  have I := lcut_none h
  exact ⟨Tells.goS Try.func72 Try.ntmps72⟩
end
def nat_Nat_uint32_90.f (l0 : List Int) : Option (List Int) := (some (([] : List Int) : List Int)).bind fun y101 => (if y101.length + l0.length < 35184372088832 then (some (y101 ++ l0)) else (none))
set_option maxHeartbeats 8000000 in
set_option maxRecDepth 100000 in
theorem nat_Nat_uint32_90.calls (A0 : Option Addr) (c0 : Nat) (l0 : List Int) (r : List Int) (w : World) (hr0 : Kd.C (Kd.int .u32) w A0 l0.length l0) (hc0 : l0.length ≤ c0) (h : nat_Nat_uint32_90.f l0 = some r) :
  Calls Try.prog 90 #[.slice A0 l0.length c0] w fun e w' => ∃ v0_ : Value, e = .returned (v0_) ∧ Kd.R (Kd.int .u32) 89 w' w.heap.size (fun _ => True) v0_ r ∧ Below w.heap.size w w' := by
 have HR0 := Aside0.mk hr0
 have HC0 := Aside0.mk hc0
 have hnil : ∀ (a : Option Addr) (l c : Nat) (w : World), (binOp .eql 23 (.slice a l c) (.slice none 0 0)).run Try.prog w = .ok (.bool a.isNone) w := by
  intro a l c w
  exact Lib.run_eql_slice_nil w _ _ a l c 0 0 Try.underlying23
 cases A0 with
 | none =>
  have hz : l0 = [] := by
   rcases Nat.eq_zero_or_pos l0.length with h0 | h0
   ·exact List.eq_nil_of_length_eq_zero h0
   ·obtain ⟨_, e, _⟩ := hr0.2.2 h0
    cases e
  subst hz
  obtain rfl : r = [] := by
   have : some ([] : List Int) = some r := h
   exact (Option.some.inj this).symm
  clear hr0 hc0 h HR0 HC0
  go_enter Try.func90, Try.ntmps90
  go_wp2
  go_ret
  exact ⟨_, rfl, Kd.R_nil _ _ _ _ _, Below.refl _ _⟩
 | some ad =>
  clear hr0 hc0
  have HB := Aside0.mk (Below.refl w.heap.size w)
  have H : ((some (([] : List Int) : List Int)).bind fun y101 => (if y101.length + l0.length < 35184372088832 then (some (y101 ++ l0)) else (none))) = some r := h
  clear h
  obtain ⟨y101, hy101⟩ : ∃ y_ : List Int, y_ = (([] : List Int)) := ⟨_, rfl⟩
  replace H : (if y101.length + l0.length < 35184372088832 then (some (y101 ++ l0)) else (none)) = some r := by first | (rw [hy101]; with_reducible exact H) | (have H2_ := (Option.bind_some _ _).symm.trans H; rw [hy101]; with_reducible exact H2_) | (have H2_ := (Option.bind_some _ _).symm.trans H; with_reducible exact H2_) | with_reducible exact H | (rw [hy101]; exact H) | exact H
  have Ny101 := Aside0.mk hy101
  clear hy101
  by_cases c2 : y101.length + l0.length < 35184372088832
  ·rw [if_pos c2] at H
   have LMc2 := Aside0.mk c2
   clear c2
   obtain ⟨y104, hy104⟩ : ∃ y_ : List Int, y_ = (y101 ++ l0) := ⟨_, rfl⟩
   replace H : (some y104) = some r := by first | (rw [hy104]; with_reducible exact H) | (have H2_ := (Option.bind_some _ _).symm.trans H; rw [hy104]; with_reducible exact H2_) | (have H2_ := (Option.bind_some _ _).symm.trans H; with_reducible exact H2_) | with_reducible exact H | (rw [hy104]; exact H) | exact H
   have Ny104 := Aside0.mk hy104
   clear hy104
   obtain rfl := Option.some.inj H
   go_enter Try.func90, Try.ntmps90
   go_wp2_with (first | ((with_reducible refine gate_dst (N := 5) rfl ?_); refine Kd.R_lit (Kd.int .u32) _ 89 ?hg (N := 5) ?hd (xs := ([] : List Int)) (inner := []) (ok := fun _ => True) (okp := fun _ => True) ?hr ?hp (fun _ hk => hk) trivial (Below.refl _ _) (Nat.le_refl _) (by simp) ?_; (case hd => rfl); (case hg => rfl); (case hr => first | (go_simp; done) | (go_simp; rfl)); (case hp => exact (Reps.none _ _)); intro v102 w3 ho4 hb hg_ hnew_; clear hg_ hnew_; (first | rw [← Ny101.out] at ho4 | (simp only [Int.reduceToNat] at ho4; rw [← Ny101.out] at ho4)); have HO103 := Aside0.mk (Kd.R_lower ho4 (below_size (by repeat (first | (with_reducible first | exact HB.out | apply below_alloc | apply pw_below_drewN | apply below_drew1) | exact HB.out)))); replace HB := Aside0.mk (below_step (by repeat (first | (with_reducible first | exact HB.out | apply below_alloc | apply pw_below_drewN | apply below_drew1) | exact HB.out)) hb); clear hb ho4) | ((with_reducible refine gate_builtin (b := .append) (xs := #[.tmp 5, .tmp 6]) rfl ?_); at_builtin; refine Kd.R_append_rows (Kd.int .u32) (w0 := w) w.heap.size rfl (.tmp 5) (.tmp 6) 23 89 (.int .u32 0) 4 rfl Try.underlying23 info89 rfl (by decide) (by omega) v102 y101 l0 _ _ _ (fun _ => True) (fun _ => False) rfl rfl ?aO ?aR (fun _ _ h => h) (fun _ h => h.elim) ?aF ?aB ?aS ?aL ?_; (case aR => repeat (first | exact (Kd.C_below HR0.out HB.out) | (with_reducible refine Kd.C_alloc ?_ _) | (with_reducible refine Kd.C_drewN ?_ _) | (with_reducible refine Kd.C_drew ?_))); (case aB => exact (by repeat (first | (with_reducible first | exact HB.out | apply below_alloc | apply pw_below_drewN | apply below_drew1) | exact HB.out))); (case aF => exact (fun _ _ => trivial)); (case aO => exact HO103.out); (case aS => exact (below_size (by repeat (first | (with_reducible first | exact HB.out | apply below_alloc | apply pw_below_drewN | apply below_drew1) | exact HB.out)))); (case aL => have := LMc2.out; omega); intro v105 w5 ho hb hg hat; rw [← Ny104.out] at ho; replace HB := Aside0.mk (hb); have HO106 := Aside0.mk (ho); clear HO103; clear ho hb hg hat))
   go_ret
   exact ⟨_, by rfl, by (with_reducible repeat (first | apply Kd.R_alloc | apply Kd.R_drewN | apply Kd.R_drew)); exact HO106.out, by repeat (first | (with_reducible first | exact HB.out | apply below_alloc | apply pw_below_drewN | apply below_drew1) | exact HB.out)⟩
  ·rw [if_neg c2] at H
   exact absurd H (by simp)
def nat_trim.l0 : Nat → List Int → Int → Option (List Int)
 | 0, _, _ => none
 | k + 1, x0, x3 => if x3 > 0 then (if 0 ≤ (wrap64 (x3 - 1)) then (if (wrap64 (x3 - 1)) < (x0.length : Int) then (if (rd x0 (wrap64 (x3 - 1))) = 0 then (nat_trim.l0 k x0 (wrap64 (x3 - 1))) else (if 0 ≤ x3 then (if x3 ≤ (x0.length : Int) then ((nat_Nat_uint32_90.f (x0.take (x3 : Int).toNat)).bind fun t110 => (some t110)) else (none)) else (none))) else (none)) else (none)) else (if 0 ≤ x3 then (if x3 ≤ (x0.length : Int) then ((nat_Nat_uint32_90.f (x0.take (x3 : Int).toNat)).bind fun t114 => (some t114)) else (none)) else (none))
def nat_trim.f (k : Nat) (l0 : List Int) : Option (List Int) := nat_trim.l0 k l0 (l0.length : Int)
set_option maxHeartbeats 8000000 in
set_option maxRecDepth 100000 in
theorem nat_trim.calls (k : Nat) (A0 : Option Addr) (c0 : Nat) (l0 : List Int) (r : List Int) (w : World) (hr0 : Kd.C (Kd.int .u32) w A0 l0.length l0) (hc0 : l0.length ≤ c0) (h : nat_trim.f k l0 = some r) :
  Calls Try.prog 71 #[.slice A0 l0.length c0] w fun e w' => ∃ v0_ : Value, e = .returned (v0_) ∧ Kd.R (Kd.int .u32) 89 w' w.heap.size (fun _ => True) v0_ r ∧ Below w.heap.size w w' := by
 have HR0 := Aside0.mk hr0
 have HC0 := Aside0.mk hc0
 clear hr0 hc0
 have HB := Aside0.mk (Below.refl w.heap.size w)
 have H : (nat_trim.l0 k l0 (l0.length : Int)) = some r := h
 clear h
 have H' := Aside0.mk H
 clear H
 go_enter Try.func71, Try.ntmps71
 go_wp2
 go_loopg [3] k (fun kq v3 w' => ∃ (x3_1 : Int), v3 = .int .i64 x3_1 ∧ Aside0 (nat_trim.l0 kq l0 x3_1 = some r) ∧ Aside0 (kq ≤ k) ∧ Aside0 (Below w.heap.size w w'))
 case atStart => exact ⟨((l0.length : Int)), (by first | rfl | (simp; done) | (simp [*]; done)), H', ⟨Nat.le_refl _⟩, ⟨by repeat (first | (with_reducible first | exact HB.out | apply below_alloc | apply pw_below_drewN | apply below_drew1) | exact HB.out)⟩⟩
 case round =>
  clear H'
  obtain ⟨x3_1, rfl, HA, HK1, HB⟩ := hrel
  cases gk with
  | zero => exact absurd HA.out (by simp [nat_trim.l0])
  | succ k1 =>
   have H := HA.out
   clear HA
   simp only [nat_trim.l0] at H
   by_cases c2 : x3_1 > 0
   ·rw [if_pos c2] at H
    have c2b0 : decide (0 < x3_1) = true := decide_eq_true c2
    clear c2
    obtain ⟨ji3, hji3⟩ : ∃ j_ : Int, (wrap64 (x3_1 - 1)) = j_ := ⟨_, rfl⟩
    replace H : (if 0 ≤ (ji3) then (if (ji3) < (l0.length : Int) then (if (rd l0 (ji3)) = 0 then (nat_trim.l0 k1 l0 ji3) else (if 0 ≤ x3_1 then (if x3_1 ≤ (l0.length : Int) then ((nat_Nat_uint32_90.f (l0.take (x3_1 : Int).toNat)).bind fun t110 => (some t110)) else (none)) else (none))) else (none)) else (none)) = some r := by first | (rw [hji3] at H; exact H) | (simp only [hji3] at H ⊢; exact H)
    have hji3w : (IntKind.i64.wrap (x3_1 - 1)) = ji3 := (i64_w _).trans hji3
    by_cases c4 : 0 ≤ (ji3)
    ·rw [if_pos c4] at H
     have c4b0 : decide (0 ≤ (ji3)) = true := decide_eq_true c4
     clear c4
     by_cases c5 : (ji3) < (l0.length : Int)
     ·rw [if_pos c5] at H
      have c5b0 : decide ((ji3) < (l0.length : Int)) = true := decide_eq_true c5
      clear c5
      by_cases c6 : (rd l0 (ji3)) = 0
      ·rw [if_pos c6] at H
       have c6b0 : ((rd l0 (ji3)) == 0) = true := beq_iff_eq.mpr c6
       have c6b1 : ((rd l0 (ji3)) != 0) = false := bne_eq_false_iff_eq.mpr c6
       clear c6
       have H' := Aside0.mk H
       clear H
       have p108 : 0 ≤ ((ji3) : Int) := of_decide_eq_true (by first | (with_reducible assumption) | assumption)
       have q108 : (ji3) < (l0.length : Int) := of_decide_eq_true (by first | (with_reducible assumption) | assumption)
       obtain ⟨ad108, e108, hx108_0⟩ := Kd.at_int HR0.out (ji3) p108 q108
       cases e108
       replace hx108_0 := (HB.out.cell (World.block_lt_of_cell? w _ hx108_0)).trans hx108_0
       replace p108 := eq_true p108
       replace q108 := eq_true q108
       go_wp2
       go_roundg k1
       case measure => have := HK1.out; omega
       case rel => exact ⟨(ji3), (by first | rfl | (simp; done) | (simp only [← hji3] <;> (first | rfl | simp)) | (simp [*]; done)), H', ⟨by have := HK1.out; omega⟩, ⟨by repeat (first | (with_reducible first | exact HB.out | apply below_alloc | apply pw_below_drewN | apply below_drew1) | exact HB.out)⟩⟩
      ·rw [if_neg c6] at H
       have c6b0 : ((rd l0 (ji3)) == 0) = false := beq_eq_false_iff_ne.mpr c6
       have c6b1 : ((rd l0 (ji3)) != 0) = true := bne_iff_ne.mpr c6
       by_cases c7 : 0 ≤ x3_1
       ·rw [if_pos c7] at H
        have c7b0 := eq_true c7
        have c7b1 : decide (0 ≤ x3_1) = true := decide_eq_true c7
        clear c7
        by_cases c8 : x3_1 ≤ (l0.length : Int)
        ·rw [if_pos c8] at H
         have c8b0 := eq_true c8
         have c8b1 : decide (x3_1 ≤ (l0.length : Int)) = true := decide_eq_true c8
         clear c8
         replace H := Option.bind_eq_some_iff.mp H
         obtain ⟨t110, A90, H⟩ := H
         replace H : (some t110) = some r := H
         have A9 := Aside0.mk A90
         clear A90
         obtain rfl := Option.some.inj H
         have p108 : 0 ≤ ((ji3) : Int) := of_decide_eq_true (by first | (with_reducible assumption) | assumption)
         have q108 : (ji3) < (l0.length : Int) := of_decide_eq_true (by first | (with_reducible assumption) | assumption)
         obtain ⟨ad108, e108, hx108_0⟩ := Kd.at_int HR0.out (ji3) p108 q108
         cases e108
         replace hx108_0 := (HB.out.cell (World.block_lt_of_cell? w _ hx108_0)).trans hx108_0
         replace p108 := eq_true p108
         replace q108 := eq_true q108
         obtain ⟨i010, hi010, _, hsz10, _⟩ := info_parts info89
         obtain ⟨hcut10, hA10, hC10⟩ := print_take_of (P := Try.prog) (Value.int .u32) 0 23 89 .i64 Try.underlying23 hi010 hsz10 (some ad108) c0 l0 x3_1 (of_decide_eq_true (by first | (with_reducible assumption) | assumption)) (of_decide_eq_true (by first | (with_reducible assumption) | assumption)) HC0.out
         have HR109 := Aside0.mk (Kd.C_of_reads (h1 := fun _ => rfl) (hA10 _ (Kd.reads_of_C HR0.out)))
         have HC109 := Aside0.mk hC10
         clear hA10 hC10 hi010 hsz10
         go_wp2_with (first | ((with_reducible refine gate_callee (f := 90) rfl ?_); refine goesL_ (some 21) rfl rfl Try.func90 (by kernel_rfl) rfl #[.slice (some ad108) (l0.take (x3_1 : Int).toNat).length c0] rfl (by (try simp only [List.map_toArray, List.map_cons, List.map_nil]); first | done | (rw [show (l0.take (x3_1 : Int).toNat).length = x3_1.toNat from (by rw [List.length_take]; have h_ : (x3_1 : Int) ≤ (l0.length : Int) := of_decide_eq_true (by first | (with_reducible assumption) | assumption); omega)] <;> rfl) | rfl | (simp only [List.length_drop, List.length_take]; rfl)) ?_; (with_reducible refine (nat_Nat_uint32_90.calls _ _ (l0.take (x3_1 : Int).toNat) t110 _ ?side1 HC109.out A9.out).mono ?_); (case side1 => repeat (first | exact (Kd.C_below HR109.out HB.out) | (with_reducible refine Kd.C_alloc ?_ _) | (with_reducible refine Kd.C_drewN ?_ _) | (with_reducible refine Kd.C_drew ?_))); rintro e w11 ⟨v111, rfl, ho0, hb⟩; refine ⟨_, rfl, ?_⟩; have HO112 := Aside0.mk (Kd.R_lower ho0 (below_size (by repeat (first | (with_reducible first | exact HB.out | apply below_alloc | apply pw_below_drewN | apply below_drew1) | exact HB.out)))); replace HB := Aside0.mk (below_step (by repeat (first | (with_reducible first | exact HB.out | apply below_alloc | apply pw_below_drewN | apply below_drew1) | exact HB.out)) hb); (try clear hb); (try clear ho0)))
         go_ret
         exact ⟨_, by first | rfl | (simp [errW_none, errW_some] <;> rfl) | (simp only [← hji3]; first | rfl | (simp [errW_none, errW_some] <;> rfl)) | (simp [*, errW_none, errW_some] <;> rfl), by (with_reducible repeat (first | apply Kd.R_alloc | apply Kd.R_drewN | apply Kd.R_drew)); exact HO112.out, by repeat (first | (with_reducible first | exact HB.out | apply below_alloc | apply pw_below_drewN | apply below_drew1) | exact HB.out)⟩
        ·rw [if_neg c8] at H
         exact absurd H (by simp)
       ·rw [if_neg c7] at H
        exact absurd H (by simp)
     ·rw [if_neg c5] at H
      exact absurd H (by simp)
    ·rw [if_neg c4] at H
     exact absurd H (by simp)
   ·rw [if_neg c2] at H
    have c2b0 : decide (0 < x3_1) = false := decide_eq_false c2
    clear c2
    by_cases c12 : 0 ≤ x3_1
    ·rw [if_pos c12] at H
     have c12b0 := eq_true c12
     have c12b1 : decide (0 ≤ x3_1) = true := decide_eq_true c12
     clear c12
     by_cases c13 : x3_1 ≤ (l0.length : Int)
     ·rw [if_pos c13] at H
      have c13b0 := eq_true c13
      have c13b1 : decide (x3_1 ≤ (l0.length : Int)) = true := decide_eq_true c13
      clear c13
      replace H := Option.bind_eq_some_iff.mp H
      obtain ⟨t114, A140, H⟩ := H
      replace H : (some t114) = some r := H
      have A14 := Aside0.mk A140
      clear A140
      obtain rfl := Option.some.inj H
      obtain ⟨i015, hi015, _, hsz15, _⟩ := info_parts info89
      obtain ⟨hcut15, hA15, hC15⟩ := print_take_of (P := Try.prog) (Value.int .u32) 0 23 89 .i64 Try.underlying23 hi015 hsz15 A0 c0 l0 x3_1 (of_decide_eq_true (by first | (with_reducible assumption) | assumption)) (of_decide_eq_true (by first | (with_reducible assumption) | assumption)) HC0.out
      have HR113 := Aside0.mk (Kd.C_of_reads (h1 := fun _ => rfl) (hA15 _ (Kd.reads_of_C HR0.out)))
      have HC113 := Aside0.mk hC15
      clear hA15 hC15 hi015 hsz15
      go_wp2_with (first | ((with_reducible refine gate_callee (f := 90) rfl ?_); refine goesL_ (some 21) rfl rfl Try.func90 (by kernel_rfl) rfl #[.slice A0 (l0.take (x3_1 : Int).toNat).length c0] rfl (by (try simp only [List.map_toArray, List.map_cons, List.map_nil]); first | done | (rw [show (l0.take (x3_1 : Int).toNat).length = x3_1.toNat from (by rw [List.length_take]; have h_ : (x3_1 : Int) ≤ (l0.length : Int) := of_decide_eq_true (by first | (with_reducible assumption) | assumption); omega)] <;> rfl) | rfl | (simp only [List.length_drop, List.length_take]; rfl)) ?_; (with_reducible refine (nat_Nat_uint32_90.calls _ _ (l0.take (x3_1 : Int).toNat) t114 _ ?side1 HC113.out A14.out).mono ?_); (case side1 => repeat (first | exact (Kd.C_below HR113.out HB.out) | (with_reducible refine Kd.C_alloc ?_ _) | (with_reducible refine Kd.C_drewN ?_ _) | (with_reducible refine Kd.C_drew ?_))); rintro e w16 ⟨v115, rfl, ho0, hb⟩; refine ⟨_, rfl, ?_⟩; have HO116 := Aside0.mk (Kd.R_lower ho0 (below_size (by repeat (first | (with_reducible first | exact HB.out | apply below_alloc | apply pw_below_drewN | apply below_drew1) | exact HB.out)))); replace HB := Aside0.mk (below_step (by repeat (first | (with_reducible first | exact HB.out | apply below_alloc | apply pw_below_drewN | apply below_drew1) | exact HB.out)) hb); (try clear hb); (try clear ho0)))
      go_ret
      exact ⟨_, by rfl, by (with_reducible repeat (first | apply Kd.R_alloc | apply Kd.R_drewN | apply Kd.R_drew)); exact HO116.out, by repeat (first | (with_reducible first | exact HB.out | apply below_alloc | apply pw_below_drewN | apply below_drew1) | exact HB.out)⟩
     ·rw [if_neg c13] at H
      exact absurd H (by simp)
    ·rw [if_neg c12] at H
     exact absurd H (by simp)

theorem nat_trim.sem_l {l : List Int} (hW : Num.Ws l) (hl : l.length < 35184372088832) (n : Nat) : ∀ k, n ≤ l.length → n < k → nat_trim.l0 k l (n : Int) = some (Num.nd (Num.nv (l.take n))) := by
 induction n with
 | zero =>
  intro k _ hk
  obtain ⟨k, rfl⟩ : ∃ m, k = m + 1 := ⟨k - 1, by omega⟩
  simp only [nat_trim.l0]
  rw [if_neg (by omega), if_pos (by omega), if_pos (by omega)]
  simp [nat_Nat_uint32_90.f, Num.nv, Num.nd_zero]
 | succ n ih =>
  intro k hn hk
  obtain ⟨k, rfl⟩ : ∃ m, k = m + 1 := ⟨k - 1, by omega⟩
  have hw : wrap64 (((n + 1 : Nat) : Int) - 1) = (n : Int) := by unfold wrap64; omega
  have hr : rd l (n : Int) = l.getD n 0 := by simp [rd]
  have hs := Num.nv_split (l.take (n + 1)) n (by rw [List.length_take]; omega)
  have ht : (l.take (n + 1)).take n = l.take n := by rw [List.take_take]; congr 1; omega
  have hg : (l.take (n + 1)).getD n 0 = l.getD n 0 := by simp [List.getElem?_take]
  have hd : (l.take (n + 1)).drop (n + 1) = [] := List.drop_of_length_le (by rw [List.length_take]; omega)
  rw [ht, hg, hd] at hs
  simp only [nat_trim.l0]
  rw [if_pos (by omega), hw, if_pos (by omega), if_pos (by omega), hr]
  by_cases h0 : l.getD n 0 = 0
  ·rw [if_pos h0, ih k (by omega) (by omega), hs, h0]
   simp [Num.nv]
  ·rw [if_neg h0, if_pos (by omega), if_pos (by omega)]
   have hc : (l.take (n + 1)).length < 35184372088832 := by rw [List.length_take]; omega
   have e : Num.nd (Num.nv (l.take (n + 1))) = l.take (n + 1) := by
    refine Num.nd_nv (hW.take _) (.inr ?_)
    rw [List.length_take, Nat.min_eq_left hn, Nat.add_sub_cancel, hg]
    exact h0
   simp only [Int.toNat_natCast]
   rw [e]
   simp only [nat_Nat_uint32_90.f, Option.bind_some, List.length_nil, Nat.zero_add, List.nil_append]
   rw [if_pos hc]
   rfl
theorem nat_trim.sem_w {l : List Int} (hW : Num.Ws l) (hl : l.length < 35184372088832) (k : Nat) (hk : l.length < k) : nat_trim.f k l = some (Num.nd (Num.nv l)) := by
 have := nat_trim.sem_l hW hl l.length k (Nat.le_refl _) hk
 rw [List.take_length] at this
 exact this
/-- A row without noughts at its end. -/
theorem nat_trim.sem {l : List Int} (h : Num.okw l = true) (k : Nat) (hk : l.length < k) : nat_trim.f k l = some (Num.nd (Num.nv l)) := by
 obtain ⟨hl, hW⟩ := (Num.okw_iff l).1 h
 exact nat_trim.sem_w hW (by omega) k hk
theorem nat_trim.ev {l : List Int} (hW : Num.Ws l) (hl : l.length < 35184372088832) : Ev (fun k => nat_trim.f k l) (Num.nd (Num.nv l)) := ⟨l.length + 1, fun k hk => nat_trim.sem_w hW hl k (by omega)⟩
theorem nat_trim.u64w {n : Int} (h0 : 0 ≤ n) (h1 : n < 18446744073709551616) : IntKind.u64.wrap n = n := by
 have : IntKind.u64.wrap n = n % 18446744073709551616 := by simp [IntKind.wrap, IntKind.bits, IntKind.signed]
 rw [this]; omega
theorem nat_trim.w64 {n : Int} (h0 : -9223372036854775808 ≤ n) (h1 : n < 9223372036854775808) : wrap64 n = n := by unfold wrap64; omega
/- Numbers of the machine that fit: each said of natural numbers, so that no arithmetic is done beside the machine's words. -/
theorem w64_nat (n : Nat) (h : n < 9223372036854775808) : wrap64 (n : Int) = (n : Int) := nat_trim.w64 (by omega) (by omega)
theorem w64_add (a b : Nat) (h : a + b < 9223372036854775808) : wrap64 ((a : Int) + (b : Int)) = ((a + b : Nat) : Int) := by rw [nat_trim.w64 (by omega) (by omega)]; omega
theorem w64_succ (a : Nat) (h : a + 1 < 9223372036854775808) : wrap64 ((a : Int) + 1) = ((a + 1 : Nat) : Int) := by rw [nat_trim.w64 (by omega) (by omega)]; omega
theorem w64_pred (a : Nat) (h1 : 1 ≤ a) (h : a < 9223372036854775808) : wrap64 ((a : Int) - 1) = ((a - 1 : Nat) : Int) := by rw [nat_trim.w64 (by omega) (by omega)]; omega
theorem w64_sub (a b : Nat) (h1 : b ≤ a) (h : a < 9223372036854775808) : wrap64 ((a : Int) - (b : Int)) = ((a - b : Nat) : Int) := by rw [nat_trim.w64 (by omega) (by omega)]; omega
theorem w64_mul (a b : Nat) (h : a * b < 9223372036854775808) : wrap64 ((a : Int) * (b : Int)) = ((a * b : Nat) : Int) := by rw [← Int.natCast_mul]; exact w64_nat _ h
theorem u64_nat (n : Nat) (h : n < 18446744073709551616) : IntKind.u64.wrap (n : Int) = (n : Int) := nat_trim.u64w (by omega) (by omega)
theorem u64_add (a b : Nat) (h : a + b < 18446744073709551616) : IntKind.u64.wrap ((a : Int) + (b : Int)) = ((a + b : Nat) : Int) := by rw [nat_trim.u64w (by omega) (by omega)]; omega
theorem u64_mul (a b : Nat) (h : a * b < 18446744073709551616) : IntKind.u64.wrap ((a : Int) * (b : Int)) = ((a * b : Nat) : Int) := by rw [← Int.natCast_mul]; exact u64_nat _ h
theorem mod32_nat (n : Nat) : (n : Int) % 4294967296 = ((n % 4294967296 : Nat) : Int) := by omega
theorem div32_nat (n : Nat) : (n : Int) / 4294967296 = ((n / 4294967296 : Nat) : Int) := by omega
theorem shl64_nat (p r : Nat) (hp : p < 4294967296) (hr : r ≤ 31) : shl .u64 (p : Int) (r : Int) = ((p * 2 ^ r : Nat) : Int) := by
 have hR : 2 ^ r ≤ 2147483648 := Nat.le_trans (Nat.pow_le_pow_right (n := 2) (by omega) hr) (by decide)
 have h64 : p * 2 ^ r < 18446744073709551616 := by
  have := Nat.mul_le_mul (show p ≤ 4294967296 from by omega) hR
  omega
 have e : (p : Int) * 2 ^ r = ((p * 2 ^ r : Nat) : Int) := by rw [Int.natCast_mul, Int.natCast_pow]; rfl
 unfold shl
 rw [Int.toNat_natCast, show min r IntKind.u64.bits = r from Nat.min_eq_left (show r ≤ 64 from by omega), e]
 exact u64_nat _ h64
theorem rd_nat (l : List Int) (i : Nat) : rd l (i : Int) = l.getD i 0 := by simp [rd]
theorem rd_at {l : List Int} {i p : Nat} (h : (p : Int) = l.getD i 0) : rd l (i : Int) = (p : Int) := by rw [h]; simp [rd]
set_option synthInstance.checkSynthOrder false in
open Lin in
instance nat_trim.t {k : Nat} {l0 : List Int} {r : List Int} [h : Ans (nat_trim.f k l0) r] : Tl Try.prog 71 [.one (.row l0)] (.el (.one (.row r))) := ⟨Tells.of Try.func71 fun out w vs ho hl hv => by
 obtain ⟨u0, rfl, h0⟩ := args1 hl hv
 obtain ⟨A0, c0, rfl, hc0, hr0, hb0⟩ := h0
 refine (nat_trim.calls k A0 c0 l0 _ w hr0 hc0 h.out).mono ?_
 rintro e w' ⟨v0_, rfl, gv0_, hb⟩
 exact ⟨_, rfl, row_R gv0_ ho, hb⟩⟩
mutual
def nat_Shift.j0 : Nat → List Int → Int → Bool → Option (List Int)
 | 0, _, _, _ => none
 | k + 1, x0, x1, x14 => if x14 = true then ((nat_trim.f k x0).bind fun t117 => (some t117)) else (if 0 ≤ (wrap64 ((wrap64 ((x0.length : Int) + (wrap64 (Int.tdiv x1 32)))) + 1)) then (if (wrap64 ((wrap64 ((x0.length : Int) + (wrap64 (Int.tdiv x1 32)))) + 1) : Int).toNat ≤ 70368744177664 then (nat_Shift.l0 k x1 (List.replicate (wrap64 ((wrap64 ((x0.length : Int) + (wrap64 (Int.tdiv x1 32)))) + 1) : Int).toNat 0) x0 (x0.length : Int) 0) else (none)) else (none))
def nat_Shift.l0 : Nat → Int → List Int → List Int → Int → Int → Option (List Int)
 | 0, _, _, _, _, _ => none
 | k + 1, x1, x5, x24, x25, x26 => if x26 < x25 then (if 0 ≤ x26 then (if x26 < (x24.length : Int) then (if 0 ≤ (Int.tmod x1 32) then (if 0 ≤ (wrap64 (x26 + (wrap64 (Int.tdiv x1 32)))) then (if (wrap64 (x26 + (wrap64 (Int.tdiv x1 32)))) < (x5.length : Int) then ((some (x5.set ((wrap64 (x26 + (wrap64 (Int.tdiv x1 32)))) : Int).toNat (Go.bits .or .u32 (rd x5 (wrap64 (x26 + (wrap64 (Int.tdiv x1 32))))) ((shl .u64 (IntKind.u64.wrap (rd x24 x26)) (Int.tmod x1 32)) % 4294967296)) : List Int)).bind fun y125 => (if 0 ≤ (wrap64 ((wrap64 (x26 + (wrap64 (Int.tdiv x1 32)))) + 1)) then (if (wrap64 ((wrap64 (x26 + (wrap64 (Int.tdiv x1 32)))) + 1)) < (x5.length : Int) then (nat_Shift.l0 k x1 (y125.set ((wrap64 ((wrap64 (x26 + (wrap64 (Int.tdiv x1 32)))) + 1)) : Int).toNat (Go.bits .or .u32 (rd y125 (wrap64 ((wrap64 (x26 + (wrap64 (Int.tdiv x1 32)))) + 1))) (((shl .u64 (IntKind.u64.wrap (rd x24 x26)) (Int.tmod x1 32)) / 4294967296) % 4294967296))) x24 x25 (wrap64 (x26 + 1))) else (none)) else (none))) else (none)) else (none)) else (none)) else (none)) else (none)) else ((nat_trim.f k x5).bind fun t128 => (some t128))
end
def nat_Shift.f (k : Nat) (l0 : List Int) (a1 : Int) : Option (List Int) := if a1 < 0 then (nat_Shift.j0 k l0 a1 true) else (nat_Shift.j0 k l0 a1 (decide (a1 > 65536)))
set_option maxHeartbeats 8000000 in
set_option maxRecDepth 100000 in
theorem nat_Shift.calls (k : Nat) (A0 : Option Addr) (c0 : Nat) (l0 : List Int) (a1 : Int) (r : List Int) (w : World) (hr0 : Kd.C (Kd.int .u32) w A0 l0.length l0) (hc0 : l0.length ≤ c0) (h : nat_Shift.f k l0 a1 = some r) :
  Calls Try.prog 79 #[.slice A0 l0.length c0, .int .i64 a1] w fun e w' => ∃ v0_ : Value, e = .returned (v0_) ∧ Kd.R (Kd.int .u32) 89 w' w.heap.size (fun _ => True) v0_ r ∧ Below w.heap.size w w' := by
 have HR0 := Aside0.mk hr0
 have HC0 := Aside0.mk hc0
 clear hr0 hc0
 have HB := Aside0.mk (Below.refl w.heap.size w)
 have H : (if a1 < 0 then (nat_Shift.j0 k l0 a1 true) else (nat_Shift.j0 k l0 a1 (decide (a1 > 65536)))) = some r := h
 clear h
 have HC3 := Aside0.mk H
 clear H
 go_enter Try.func79, Try.ntmps79
 go_upto_region 1 with (fail)
 go_cut [14] (fun v14 wc => ∃ (kq : Nat) (x14_2 : Bool), v14 = .bool x14_2 ∧ Aside0 (nat_Shift.j0 kq l0 a1 x14_2 = some r) ∧ Aside0 (kq ≤ k) ∧ Aside0 (Below w.heap.size w wc))
 case first =>
  have H := HC3.out
  clear HC3
  by_cases c4 : a1 < 0
  ·rw [if_pos c4] at H
   have c4b0 : decide (a1 < 0) = true := decide_eq_true c4
   clear c4
   (first | rw [c4b0] | (simp only [i64_w, i32_w]; rw [c4b0]) | skip)
   have H' := Aside0.mk H
   clear H
   go_wp2
   go_meet
   case rel => exact ⟨_, (true), (by first | rfl | (simp; done) | (simp [*]; done)), H', ⟨by first | omega | exact Nat.le_refl _⟩, ⟨by repeat (first | (with_reducible first | exact HB.out | apply below_alloc | apply pw_below_drewN | apply below_drew1) | exact HB.out)⟩⟩
  ·rw [if_neg c4] at H
   have c4b0 : decide (a1 < 0) = false := decide_eq_false c4
   clear c4
   (first | rw [c4b0] | (simp only [i64_w, i32_w]; rw [c4b0]) | skip)
   have H' := Aside0.mk H
   clear H
   go_wp2
   go_meet
   case rel => exact ⟨_, (decide (a1 > 65536)), (by first | rfl | (simp; done) | (simp [*]; done)), H', ⟨by first | omega | exact Nat.le_refl _⟩, ⟨by repeat (first | (with_reducible first | exact HB.out | apply below_alloc | apply pw_below_drewN | apply below_drew1) | exact HB.out)⟩⟩
 case rest =>
  clear HC3
  try clear p2
  try clear c4
  try clear c4b0
  obtain ⟨kq, x14_2, rfl, HA, HJ2, HB⟩ := hcut
  cases kq with
  | zero => exact absurd HA.out (by simp [nat_Shift.j0])
  | succ kj2 =>
   have H := HA.out
   clear HA
   simp only [nat_Shift.j0] at H
   by_cases c5 : x14_2 = true
   ·subst c5
    have H1 : ((nat_trim.f kj2 l0).bind fun t117 => (some t117)) = some r := by rw [if_pos rfl] at H; exact H
    clear H
    have H := H1
    clear H1
    replace H := Option.bind_eq_some_iff.mp H
    obtain ⟨t117, A60, H⟩ := H
    replace H : (some t117) = some r := H
    have A6 := Aside0.mk A60
    clear A60
    obtain rfl := Option.some.inj H
    go_wp2_with (first | ((with_reducible refine gate_callee (f := 71) rfl ?_); refine Short.goesS_ (some 16) Try.func71 #[.slice A0 l0.length c0] ?_; (with_reducible refine (nat_trim.calls kj2 _ _ l0 t117 _ (Kd.C_below HR0.out HB.out) HC0.out A6.out).mono ?_); rintro e w7 ⟨v118, rfl, ho0, hb⟩; refine ⟨_, rfl, ?_⟩; have HO119 := Aside0.mk (Kd.R_lower ho0 (below_size (by repeat (first | (with_reducible first | exact HB.out | apply below_alloc | apply pw_below_drewN | apply below_drew1) | exact HB.out)))); replace HB := Aside0.mk (below_step (by repeat (first | (with_reducible first | exact HB.out | apply below_alloc | apply pw_below_drewN | apply below_drew1) | exact HB.out)) hb); (try clear hb); (try clear ho0)))
    go_ret
    exact ⟨_, by rfl, by (with_reducible repeat (first | apply Kd.R_alloc | apply Kd.R_drewN | apply Kd.R_drew)); exact HO119.out, by repeat (first | (with_reducible first | exact HB.out | apply below_alloc | apply pw_below_drewN | apply below_drew1) | exact HB.out)⟩
   ·replace c5 := Bool.eq_false_iff.mpr c5
    subst c5
    have H1 : (if 0 ≤ (wrap64 ((wrap64 ((l0.length : Int) + (wrap64 (Int.tdiv a1 32)))) + 1)) then (if (wrap64 ((wrap64 ((l0.length : Int) + (wrap64 (Int.tdiv a1 32)))) + 1) : Int).toNat ≤ 70368744177664 then (nat_Shift.l0 kj2 a1 (List.replicate (wrap64 ((wrap64 ((l0.length : Int) + (wrap64 (Int.tdiv a1 32)))) + 1) : Int).toNat 0) l0 (l0.length : Int) 0) else (none)) else (none)) = some r := by rw [if_neg (show ¬ (false = true) by decide)] at H; exact H
    clear H
    have H := H1
    clear H1
    obtain ⟨ji8, hji8⟩ : ∃ j_ : Int, (wrap64 ((wrap64 ((l0.length : Int) + (wrap64 (Int.tdiv a1 32)))) + 1)) = j_ := ⟨_, rfl⟩
    replace H : (if 0 ≤ (ji8) then (if (ji8 : Int).toNat ≤ 70368744177664 then (nat_Shift.l0 kj2 a1 (List.replicate (ji8 : Int).toNat 0) l0 (l0.length : Int) 0) else (none)) else (none)) = some r := by first | (rw [hji8] at H; exact H) | (simp only [hji8] at H ⊢; exact H)
    have hji8w : (IntKind.i64.wrap ((wrap64 ((l0.length : Int) + (wrap64 (Int.tdiv a1 32)))) + 1)) = ji8 := (i64_w _).trans hji8
    by_cases c9 : 0 ≤ (ji8)
    ·rw [if_pos c9] at H
     have c9b0 := eq_true c9
     have c9b1 : decide (0 ≤ (ji8)) = true := decide_eq_true c9
     clear c9
     by_cases c10 : (ji8 : Int).toNat ≤ 70368744177664
     ·rw [if_pos c10] at H
      have c10b0 := eq_true c10
      have c10b1 : decide ((ji8 : Int).toNat ≤ 70368744177664) = true := decide_eq_true c10
      clear c10
      obtain ⟨y120, hy120⟩ : ∃ y_ : List Int, y_ = (List.replicate (ji8 : Int).toNat 0) := ⟨_, rfl⟩
      replace H : (nat_Shift.l0 kj2 a1 y120 l0 (l0.length : Int) 0) = some r := by first | (rw [hy120]; with_reducible exact H) | (have H2_ := (Option.bind_some _ _).symm.trans H; rw [hy120]; with_reducible exact H2_) | (have H2_ := (Option.bind_some _ _).symm.trans H; with_reducible exact H2_) | with_reducible exact H | (rw [hy120]; exact H) | exact H
      have Ny120 := Aside0.mk hy120
      clear hy120
      have H' := Aside0.mk H
      clear H
      go_wp2_with (first | ((with_reducible refine gate_dst (N := 23) rfl ?_); refine Kd.R_make (Kd.int .u32) _ 89 rfl (N := 23) rfl 23 _ _ rfl ji8 rfl rfl Try.underlying23 (.int .u32 0) 4 info89 rfl (by decide) (by omega) 0 (ok := fun _ => True) (okp := fun _ => True) rfl (fun _ hk => hk) trivial (of_decide_eq_true (by first | (with_reducible assumption) | assumption)) (Nat.le_trans (Nat.mul_le_mul_right _ (of_decide_eq_true (by first | (with_reducible assumption) | assumption) : ji8.toNat ≤ 70368744177664)) (by omega)) (Below.refl _ _) (Nat.le_refl _) ?_; intro v121 w11 ho12 hb hg_ hnew_; clear hg_ hnew_; (first | rw [← Ny120.out] at ho12 | (simp only [Int.reduceToNat] at ho12; rw [← Ny120.out] at ho12)); have HO122 := Aside0.mk (Kd.R_lower ho12 (below_size (by repeat (first | (with_reducible first | exact HB.out | apply below_alloc | apply pw_below_drewN | apply below_drew1) | exact HB.out)))); replace HB := Aside0.mk (below_step (by repeat (first | (with_reducible first | exact HB.out | apply below_alloc | apply pw_below_drewN | apply below_drew1) | exact HB.out)) hb); clear hb ho12))
      go_loopg [26] kj2 (fun kq v26 w' => ∃ (x5_2 : List Int) (x26_2 : Int), v26 = .int .i64 x26_2 ∧ Aside0 (nat_Shift.l0 kq a1 x5_2 l0 (l0.length : Int) x26_2 = some r) ∧ Aside0 (kq ≤ kj2) ∧ Aside0 (Kd.R (Kd.int .u32) 89 w' w.heap.size (fun _ => True) v121 x5_2) ∧ Aside0 (Below w.heap.size w w'))
      case atStart => exact ⟨(y120), (0), (by first | rfl | (simp; done) | (simp [*]; done)), H', ⟨Nat.le_refl _⟩, ⟨by (with_reducible repeat (first | apply Kd.R_alloc | apply Kd.R_drewN | apply Kd.R_drew)); exact HO122.out⟩, ⟨by repeat (first | (with_reducible first | exact HB.out | apply below_alloc | apply pw_below_drewN | apply below_drew1) | exact HB.out)⟩⟩
      case round =>
       clear H'
       try clear c1
       try clear p2
       try clear c4
       try clear c4b0
       try clear c5
       try clear p6
       try clear c7
       try clear c9
       try clear c9b0
       try clear c9b1
       try clear c10
       try clear c10b0
       try clear c10b1
       try clear p2
       obtain ⟨x5_2, x26_2, rfl, HA, HK2, HO_5, HB⟩ := hrel
       cases gk with
       | zero => exact absurd HA.out (by simp [nat_Shift.l0])
       | succ k2 =>
        have H := HA.out
        clear HA
        simp only [nat_Shift.l0] at H
        by_cases c13 : x26_2 < (l0.length : Int)
        ·rw [if_pos c13] at H
         have c13b0 : decide (x26_2 < (l0.length : Int)) = true := decide_eq_true c13
         clear c13
         by_cases c14 : 0 ≤ x26_2
         ·rw [if_pos c14] at H
          have c14b0 : decide (0 ≤ x26_2) = true := decide_eq_true c14
          clear c14
          by_cases c15 : x26_2 < (l0.length : Int)
          ·rw [if_pos c15] at H
           have c15b0 : decide (x26_2 < (l0.length : Int)) = true := decide_eq_true c15
           clear c15
           obtain ⟨ji16, hji16⟩ : ∃ j_ : Int, (Int.tmod a1 32) = j_ := ⟨_, rfl⟩
           replace H : (if 0 ≤ (ji16) then (if 0 ≤ (wrap64 (x26_2 + (wrap64 (Int.tdiv a1 32)))) then (if (wrap64 (x26_2 + (wrap64 (Int.tdiv a1 32)))) < (x5_2.length : Int) then ((some (x5_2.set ((wrap64 (x26_2 + (wrap64 (Int.tdiv a1 32)))) : Int).toNat (Go.bits .or .u32 (rd x5_2 (wrap64 (x26_2 + (wrap64 (Int.tdiv a1 32))))) ((shl .u64 (IntKind.u64.wrap (rd l0 x26_2)) (ji16)) % 4294967296)) : List Int)).bind fun y125 => (if 0 ≤ (wrap64 ((wrap64 (x26_2 + (wrap64 (Int.tdiv a1 32)))) + 1)) then (if (wrap64 ((wrap64 (x26_2 + (wrap64 (Int.tdiv a1 32)))) + 1)) < (x5_2.length : Int) then (nat_Shift.l0 k2 a1 (y125.set ((wrap64 ((wrap64 (x26_2 + (wrap64 (Int.tdiv a1 32)))) + 1)) : Int).toNat (Go.bits .or .u32 (rd y125 (wrap64 ((wrap64 (x26_2 + (wrap64 (Int.tdiv a1 32)))) + 1))) (((shl .u64 (IntKind.u64.wrap (rd l0 x26_2)) (ji16)) / 4294967296) % 4294967296))) l0 (l0.length : Int) (wrap64 (x26_2 + 1))) else (none)) else (none))) else (none)) else (none)) else (none)) = some r := by first | (rw [hji16] at H; exact H) | (simp only [hji16] at H ⊢; exact H)
           by_cases c17 : 0 ≤ (ji16)
           ·rw [if_pos c17] at H
            have c17b0 := eq_true c17
            have c17b1 : decide (0 ≤ (ji16)) = true := decide_eq_true c17
            clear c17
            obtain ⟨ji18, hji18⟩ : ∃ j_ : Int, (shl .u64 (IntKind.u64.wrap (rd l0 x26_2)) (ji16)) = j_ := ⟨_, rfl⟩
            replace H : (if 0 ≤ (wrap64 (x26_2 + (wrap64 (Int.tdiv a1 32)))) then (if (wrap64 (x26_2 + (wrap64 (Int.tdiv a1 32)))) < (x5_2.length : Int) then ((some (x5_2.set ((wrap64 (x26_2 + (wrap64 (Int.tdiv a1 32)))) : Int).toNat (Go.bits .or .u32 (rd x5_2 (wrap64 (x26_2 + (wrap64 (Int.tdiv a1 32))))) ((ji18) % 4294967296)) : List Int)).bind fun y125 => (if 0 ≤ (wrap64 ((wrap64 (x26_2 + (wrap64 (Int.tdiv a1 32)))) + 1)) then (if (wrap64 ((wrap64 (x26_2 + (wrap64 (Int.tdiv a1 32)))) + 1)) < (x5_2.length : Int) then (nat_Shift.l0 k2 a1 (y125.set ((wrap64 ((wrap64 (x26_2 + (wrap64 (Int.tdiv a1 32)))) + 1)) : Int).toNat (Go.bits .or .u32 (rd y125 (wrap64 ((wrap64 (x26_2 + (wrap64 (Int.tdiv a1 32)))) + 1))) (((ji18) / 4294967296) % 4294967296))) l0 (l0.length : Int) (wrap64 (x26_2 + 1))) else (none)) else (none))) else (none)) else (none)) = some r := by first | (rw [hji18] at H; exact H) | (simp only [hji18] at H ⊢; exact H)
            have hji18_ : (IntKind.u64.wrap ((IntKind.u64.wrap (rd l0 x26_2)) * 2 ^ min (ji16).toNat 64)) = ji18 := hji18
            have hji18z : (ji16) ≤ 64 → (IntKind.u64.wrap ((IntKind.u64.wrap (rd l0 x26_2)) * 2 ^ (ji16).toNat)) = ji18 := shl_small hji18
            obtain ⟨ji19, hji19⟩ : ∃ j_ : Int, (wrap64 (x26_2 + (wrap64 (Int.tdiv a1 32)))) = j_ := ⟨_, rfl⟩
            replace H : (if 0 ≤ (ji19) then (if (ji19) < (x5_2.length : Int) then ((some (x5_2.set ((ji19) : Int).toNat (Go.bits .or .u32 (rd x5_2 (ji19)) ((ji18) % 4294967296)) : List Int)).bind fun y125 => (if 0 ≤ (wrap64 ((ji19) + 1)) then (if (wrap64 ((ji19) + 1)) < (x5_2.length : Int) then (nat_Shift.l0 k2 a1 (y125.set ((wrap64 ((ji19) + 1)) : Int).toNat (Go.bits .or .u32 (rd y125 (wrap64 ((ji19) + 1))) (((ji18) / 4294967296) % 4294967296))) l0 (l0.length : Int) (wrap64 (x26_2 + 1))) else (none)) else (none))) else (none)) else (none)) = some r := by first | (rw [hji19] at H; exact H) | (simp only [hji19] at H ⊢; exact H)
            have hji19w : (IntKind.i64.wrap (x26_2 + (wrap64 (Int.tdiv a1 32)))) = ji19 := (i64_w _).trans hji19
            by_cases c20 : 0 ≤ (ji19)
            ·rw [if_pos c20] at H
             have c20b0 : decide (0 ≤ (ji19)) = true := decide_eq_true c20
             clear c20
             by_cases c21 : (ji19) < (x5_2.length : Int)
             ·rw [if_pos c21] at H
              have c21b0 : decide ((ji19) < (x5_2.length : Int)) = true := decide_eq_true c21
              clear c21
              obtain ⟨y125, hy125⟩ : ∃ y_ : List Int, y_ = (x5_2.set ((ji19) : Int).toNat (Go.bits .or .u32 (rd x5_2 (ji19)) ((ji18) % 4294967296))) := ⟨_, rfl⟩
              replace H : (if 0 ≤ (wrap64 ((ji19) + 1)) then (if (wrap64 ((ji19) + 1)) < (x5_2.length : Int) then (nat_Shift.l0 k2 a1 (y125.set ((wrap64 ((ji19) + 1)) : Int).toNat (Go.bits .or .u32 (rd y125 (wrap64 ((ji19) + 1))) (((ji18) / 4294967296) % 4294967296))) l0 (l0.length : Int) (wrap64 (x26_2 + 1))) else (none)) else (none)) = some r := by first | (rw [hy125]; with_reducible exact H) | (have H2_ := (Option.bind_some _ _).symm.trans H; rw [hy125]; with_reducible exact H2_) | (have H2_ := (Option.bind_some _ _).symm.trans H; with_reducible exact H2_) | with_reducible exact H | (rw [hy125]; exact H) | exact H
              have Ny125 := Aside0.mk hy125
              clear hy125
              obtain ⟨ji23, hji23⟩ : ∃ j_ : Int, (wrap64 ((ji19) + 1)) = j_ := ⟨_, rfl⟩
              replace H : (if 0 ≤ (ji23) then (if (ji23) < (x5_2.length : Int) then (nat_Shift.l0 k2 a1 (y125.set ((ji23) : Int).toNat (Go.bits .or .u32 (rd y125 (ji23)) (((ji18) / 4294967296) % 4294967296))) l0 (l0.length : Int) (wrap64 (x26_2 + 1))) else (none)) else (none)) = some r := by first | (rw [hji23] at H; exact H) | (simp only [hji23] at H ⊢; exact H)
              have hji23w : (IntKind.i64.wrap ((ji19) + 1)) = ji23 := (i64_w _).trans hji23
              by_cases c24 : 0 ≤ (ji23)
              ·rw [if_pos c24] at H
               have c24b0 : decide (0 ≤ (ji23)) = true := decide_eq_true c24
               clear c24
               by_cases c25 : (ji23) < (x5_2.length : Int)
               ·rw [if_pos c25] at H
                have c25b0 : decide ((ji23) < (x5_2.length : Int)) = true := decide_eq_true c25
                clear c25
                obtain ⟨y127, hy127⟩ : ∃ y_ : List Int, y_ = (y125.set ((ji23) : Int).toNat (Go.bits .or .u32 (rd y125 (ji23)) (((ji18) / 4294967296) % 4294967296))) := ⟨_, rfl⟩
                replace H : (nat_Shift.l0 k2 a1 y127 l0 (l0.length : Int) (wrap64 (x26_2 + 1))) = some r := by first | (rw [hy127]; with_reducible exact H) | (have H2_ := (Option.bind_some _ _).symm.trans H; rw [hy127]; with_reducible exact H2_) | (have H2_ := (Option.bind_some _ _).symm.trans H; with_reducible exact H2_) | with_reducible exact H | (rw [hy127]; exact H) | exact H
                have Ny127 := Aside0.mk hy127
                clear hy127
                have H' := Aside0.mk H
                clear H
                have p123 : 0 ≤ (x26_2 : Int) := of_decide_eq_true (by first | (with_reducible assumption) | assumption)
                have q123 : x26_2 < (l0.length : Int) := of_decide_eq_true (by first | (with_reducible assumption) | assumption)
                obtain ⟨ad123, e123, hx123_0⟩ := Kd.at_int HR0.out x26_2 p123 q123
                cases e123
                replace hx123_0 := (HB.out.cell (World.block_lt_of_cell? w _ hx123_0)).trans hx123_0
                replace p123 := eq_true p123
                replace q123 := eq_true q123
                obtain ⟨Ao27, co27, eo27⟩ := Kd.R_slice HO_5.out
                subst eo27
                have p124 : 0 ≤ ((ji19) : Int) := of_decide_eq_true (by first | (with_reducible assumption) | assumption)
                have q124 : (ji19) < (x5_2.length : Int) := of_decide_eq_true (by first | (with_reducible assumption) | assumption)
                obtain ⟨ad124, e124, hx124_0⟩ := Kd.at_int (Kd.R_reads' HO_5.out).2.2 (ji19) p124 q124
                cases e124
                replace p124 := eq_true p124
                replace q124 := eq_true q124
                have p22 : 0 ≤ ((ji19) : Int) := of_decide_eq_true (by first | (with_reducible assumption) | assumption)
                have q22 : ((ji19) : Int) < ((x5_2.length : Int) : Int) := of_decide_eq_true (by first | (with_reducible assumption) | assumption)
                obtain ⟨go22, co22, eo22, gb22, gl22, cl22, HG22⟩ := Kd.R_form HO_5.out (by omega)
                (first | cases eo22 | (injection eo22 with ea_ en_ ec_; (first | subst ea_ | (injection ea_ with ea_; subst ea_)); subst ec_; clear en_))
                have GB22 := Aside0.mk gb22
                have GG22 := Aside0.mk HG22
                clear gb22 gl22 HG22
                (first | simp only [add_plain] at hx124_0 | skip)
                obtain ⟨hx22_0, hf22_0⟩ := Kd.R_celln 0 HO_5.out ((ji19) : Int) p22 q22
                replace p22 := eq_true p22
                replace q22 := eq_true q22
                have HP28 := Kd.R_putg HO_5.out ((ji19) : Int) (Go.bits .or .u32 (rd x5_2 (ji19)) ((ji18) % 4294967296))
                go_wp2_with (first | ((with_reducible refine gate_store (t := 89) (p := 46) rfl ?_); refine store_event (t := 89) (p := 46) (v := ?vo_w29) (w1 := (wr.setCell ⟨go22, ((ji19) : Int).toNat, none⟩ (.int .u32 (Go.bits .or .u32 (rd x5_2 (ji19)) ((ji18) % 4294967296))))) ?hg ?ho ?hn ?hr ?_; (case ho => rfl); (case hg => rfl); (case hn => rfl); (case hr => first | (go_simp; done) | (go_simp; rfl)); intro w29 hw; have hg : wr.grownBy w29 (some go22) := (by rw [hw]; exact HP28.2); have hp_ : Kd.R (Kd.int .u32) 89 w29 w.heap.size (fun _ => True) (.slice (some ⟨go22, 0, none⟩) x5_2.length co27) y125 := (by rw [hw, Ny125.out]; exact HP28.1); clear HP28; replace HO_5 := Aside0.mk (hp_); replace HB := Aside0.mk ((by rw [hw]; exact below_set (HB.out) GB22.out : Below w.heap.size w w29)); clear hg hw hp_; have p126 : 0 ≤ ((ji23) : Int) := of_decide_eq_true (by first | (with_reducible assumption) | assumption); have q126 : (ji23) < (y125.length : Int) := (by have h_ : ((ji23) : Int) < ((x5_2.length : Int) : Int) := of_decide_eq_true (by first | (with_reducible assumption) | assumption); first | (have e_ := (Kd.R_reads' HO_5.out).1; omega) | simpa only [Ny125.out, List.length_set] using h_); have ql126 : (((ji23) : Int) < ((x5_2.length : Int) : Int)) = True := eq_true (of_decide_eq_true (by first | (with_reducible assumption) | assumption)); obtain ⟨ad126, e126, hx126_0⟩ := Kd.at_int (Kd.R_reads' HO_5.out).2.2 (ji23) p126 q126; obtain rfl : (⟨go22, 0, none⟩ : Addr) = ad126 := (by injection e126); (first | simp only [add_plain] at hx126_0 | simp only [add_at] at hx126_0 | simp only [Addr.add, Nat.zero_add] at hx126_0 | skip); replace p126 := eq_true p126; replace q126 := eq_true q126; have p26 : 0 ≤ ((ji23) : Int) := of_decide_eq_true (by first | (with_reducible assumption) | assumption); have q26 : ((ji23) : Int) < ((x5_2.length : Int) : Int) := of_decide_eq_true (by first | (with_reducible assumption) | assumption); obtain ⟨hx26_0, hf26_0⟩ := Kd.R_celln 0 HO_5.out ((ji23) : Int) p26 q26; replace p26 := eq_true p26; replace q26 := eq_true q26; obtain ⟨hy30_, hz30_⟩ := Kd.R_celln 0 HO_5.out ((ji23) : Int) (of_decide_eq_true (by first | (with_reducible assumption) | assumption)) (of_decide_eq_true (by first | (with_reducible assumption) | assumption)); have HP30 := Kd.R_putg HO_5.out ((ji23) : Int) (Go.bits .or .u32 (rd y125 (ji23)) (((ji18) / 4294967296) % 4294967296))) | ((with_reducible refine gate_store (t := 89) (p := 59) rfl ?_); refine store_event (t := 89) (p := 59) (v := ?vo_w31) (w1 := (w29.setCell ⟨go22, ((ji23) : Int).toNat, none⟩ (.int .u32 (Go.bits .or .u32 (rd y125 (ji23)) (((ji18) / 4294967296) % 4294967296))))) ?hg ?ho ?hn ?hr ?_; (case ho => rfl); (case hg => rfl); (case hn => rfl); (case hr => first | (go_simp; done) | (go_simp; rfl)); intro w31 hw; have hg : w29.grownBy w31 (some go22) := (by rw [hw]; exact HP30.2); have hp_ : Kd.R (Kd.int .u32) 89 w31 w.heap.size (fun _ => True) (.slice (some ⟨go22, 0, none⟩) x5_2.length co27) y127 := (by rw [hw, Ny127.out]; exact HP30.1); clear HP30; replace HO_5 := Aside0.mk (hp_); replace HB := Aside0.mk ((by rw [hw]; exact below_set (HB.out) GB22.out : Below w.heap.size w w31)); clear hg hw hp_))
                go_roundg k2
                case measure => have := HJ2.out; have := HK2.out; omega
                case rel => exact ⟨(y127), (wrap64 (x26_2 + 1)), (by first | rfl | (simp; done) | (simp [*]; done)), H', ⟨by have := HJ2.out; have := HK2.out; omega⟩, ⟨by (with_reducible repeat (first | apply Kd.R_alloc | apply Kd.R_drewN | apply Kd.R_drew)); exact HO_5.out⟩, ⟨by repeat (first | (with_reducible first | exact HB.out | apply below_alloc | apply pw_below_drewN | apply below_drew1) | exact HB.out)⟩⟩
               ·rw [if_neg c25] at H
                exact absurd H (by simp)
              ·rw [if_neg c24] at H
               exact absurd H (by simp)
             ·rw [if_neg c21] at H
              exact absurd H (by simp)
            ·rw [if_neg c20] at H
             exact absurd H (by simp)
           ·rw [if_neg c17] at H
            exact absurd H (by simp)
          ·rw [if_neg c15] at H
           exact absurd H (by simp)
         ·rw [if_neg c14] at H
          exact absurd H (by simp)
        ·rw [if_neg c13] at H
         have c13b0 : decide (x26_2 < (l0.length : Int)) = false := decide_eq_false c13
         clear c13
         replace H := Option.bind_eq_some_iff.mp H
         obtain ⟨t128, A320, H⟩ := H
         replace H : (some t128) = some r := H
         have A32 := Aside0.mk A320
         clear A320
         obtain rfl := Option.some.inj H
         obtain ⟨Ao33, co33, eo33⟩ := Kd.R_slice HO_5.out
         subst eo33
         go_wp2_with (first | ((with_reducible refine gate_callee (f := 71) rfl ?_); refine Short.goesS_ (some 62) Try.func71 #[.slice Ao33 x5_2.length co33] ?_; (with_reducible refine (nat_trim.calls k2 _ _ x5_2 t128 _ ((Kd.R_reads' HO_5.out).2.2) ((Kd.R_reads' HO_5.out).2.1) A32.out).mono ?_); rintro e w34 ⟨v129, rfl, ho0, hb⟩; refine ⟨_, rfl, ?_⟩; have HO130 := Aside0.mk (Kd.R_lower (Kd.R_new' ho0 (Kd.R_lt HO_5.out)) (below_size (by repeat (first | (with_reducible first | exact HB.out | apply below_alloc | apply pw_below_drewN | apply below_drew1) | exact HB.out)))); replace HO_5 := Aside0.mk (Kd.R_elder' HO_5.out (Kd.R_base ho0) hb); replace HB := Aside0.mk (below_step (by repeat (first | (with_reducible first | exact HB.out | apply below_alloc | apply pw_below_drewN | apply below_drew1) | exact HB.out)) hb); (try clear hb); (try clear ho0)))
         go_ret
         exact ⟨_, by first | rfl | (simp [errW_none, errW_some] <;> rfl) | (simp only [← hji8]; first | rfl | (simp [errW_none, errW_some] <;> rfl)) | (simp [*, errW_none, errW_some] <;> rfl), by (with_reducible repeat (first | apply Kd.R_alloc | apply Kd.R_drewN | apply Kd.R_drew)); exact Kd.R_mono HO130.out (fun _ hk => trivial), by repeat (first | (with_reducible first | exact HB.out | apply below_alloc | apply pw_below_drewN | apply below_drew1) | exact HB.out)⟩
     ·rw [if_neg c10] at H
      exact absurd H (by simp)
    ·rw [if_neg c9] at H
     exact absurd H (by simp)

theorem nat_Shift.or_sum {r x y : Nat} (hr : r ≤ 32) (hx : x < 2 ^ r) (hy : y % 2 ^ r = 0) (hy1 : y < 4294967296) : Go.bits .or .u32 (x : Int) (y : Int) = ((x + y : Nat) : Int) := by
 have hc : Go.bits .or .u32 (x : Int) (y : Int) = Go.bits .or .u32 (y : Int) (x : Int) := by simp only [bits, BitVec.or_comm]
 have hp : 2 ^ r ≤ 2 ^ 32 := Nat.pow_le_pow_right (by omega) hr
 have wu : ∀ n : Int, 0 ≤ n → n < 2 ^ 32 → IntKind.u32.wrap n = n := by
  intro n h0 h1
  have : IntKind.u32.wrap n = n % 4294967296 := by simp [IntKind.wrap, IntKind.bits, IntKind.signed]
  rw [this]
  have h2 : n < 4294967296 := h1
  omega
 have hx32 : x < 2 ^ 32 := by omega
 rw [hc, bits_join .u32 32 (by decide) wu r (y : Int) (x : Int) (by omega) (by exact_mod_cast hy) (by exact_mod_cast hy1) (by omega) (by exact_mod_cast hx) (by exact_mod_cast hx32)]
 omega
theorem nat_Shift.ev_l {a : List Int} (ha : Num.Ws a) (hla : a.length < 1099511627776) {n : Nat} (hn : n ≤ 65536) (d : Nat) : ∀ (i : Nat) (x : List Int), i + d = a.length → x.length = a.length + n / 32 + 1 → Num.Ws x →
  Num.nv x = 2 ^ n * Num.nv (a.take i) → Ev (fun k => nat_Shift.l0 k (n : Int) x a (a.length : Int) (i : Int)) (Num.nd (2 ^ n * Num.nv a)) := by
 induction d with
 | zero =>
  intro i x hi hx hW hv
  obtain rfl : i = a.length := by omega
  rw [List.take_of_length_le (Nat.le_refl _)] at hv
  refine Ev.step (f := fun k => (nat_trim.f k x).bind fun t => some t) (fun k => ?_) ?_
  ·simp only [nat_Shift.l0]
   rw [if_neg (by omega)]
  ·rw [← hv]
   exact Ev.bind (nat_trim.ev hW (by omega)) (Ev.now _)
 | succ d ih =>
  intro i x hi hx hW hv
  have hga := ha.getD i
  obtain ⟨p, hp⟩ : ∃ p : Nat, (p : Int) = a.getD i 0 := ⟨(a.getD i 0).toNat, by omega⟩
  obtain ⟨q, hq⟩ : ∃ q, q = n / 32 := ⟨_, rfl⟩
  obtain ⟨r, hr⟩ : ∃ r, r = n % 32 := ⟨_, rfl⟩
  have hnq : n = 32 * q + r := by omega
  have hr31 : r ≤ 31 := by omega
  have hxq : i + q + 1 < x.length := by omega
  -- the words at i + q and behind it
  have hR : 2 ^ r ≤ 4294967296 := Nat.le_trans (Nat.pow_le_pow_right (n := 2) (by omega) hr31) (by decide)
  have htk := Num.nv_take_lt ha i (by omega)
  have hxlt : Num.nv x < 2 ^ (32 * (i + q)) * 2 ^ r := by
   rw [hv, ← Nat.pow_add, show 32 * (i + q) + r = n + 32 * i from by omega, Nat.pow_add]
   exact Nat.mul_lt_mul_of_pos_left htk (Nat.two_pow_pos _)
  obtain ⟨ht1, ht2⟩ := Num.nv_top hR (by omega) hxlt
  have hx1 : x.getD (i + q + 1) 0 = 0 := by
   have := Num.nv_zero_getD (hW.drop _) ht2 0
   simpa using this
  have hgx := hW.getD (i + q)
  obtain ⟨u, hu⟩ : ∃ u : Nat, (u : Int) = x.getD (i + q) 0 := ⟨(x.getD (i + q) 0).toNat, by omega⟩
  have hu1 : u < 2 ^ r := by rw [← hu] at ht1; simpa using ht1
  have hpr : p * 2 ^ r < 4294967296 * 2 ^ r := Nat.mul_lt_mul_of_pos_right (by omega) (Nat.two_pow_pos _)
  have hhi : p * 2 ^ r / 4294967296 < 2 ^ r := Nat.div_lt_of_lt_mul hpr
  have hlo : (p * 2 ^ r) % 4294967296 % 2 ^ r = 0 := by
   rw [Nat.mod_mod_of_dvd _ (show 2 ^ r ∣ 4294967296 from Nat.pow_dvd_pow 2 (show r ≤ 32 from by omega))]
   exact Nat.mul_mod_left _ _
  have c1 : (i : Int) < (a.length : Int) := by omega
  have c2 : 0 ≤ (i : Int) := by omega
  have c4 : 0 ≤ (r : Int) := by omega
  have c5 : 0 ≤ ((i + q : Nat) : Int) := by omega
  have c6 : ((i + q : Nat) : Int) < (x.length : Int) := by omega
  have c7 : 0 ≤ ((i + q + 1 : Nat) : Int) := by omega
  have c8 : ((i + q + 1 : Nat) : Int) < (x.length : Int) := by omega
  have b1 : q < 9223372036854775808 := by omega
  have b2 : i + q < 9223372036854775808 := by omega
  have b3 : i + q + 1 < 9223372036854775808 := by omega
  have b4 : i + 1 < 9223372036854775808 := by omega
  have b6 : p < 4294967296 := by omega
  have b5 : p < 18446744073709551616 := by omega
  have b7 : p * 2 ^ r / 4294967296 < 4294967296 := by omega
  have b8 : r ≤ 32 := by omega
  have b9 : p * 2 ^ r % 4294967296 < 4294967296 := by omega
  refine Ev.step (f := fun k => nat_Shift.l0 k (n : Int) ((x.set (i + q) ((u + p * 2 ^ r % 4294967296 : Nat) : Int)).set (i + q + 1) ((p * 2 ^ r / 4294967296 : Nat) : Int)) a (a.length : Int) ((i + 1 : Nat) : Int)) (fun k => ?_) ?_
  ·have t1 : Int.tdiv (n : Int) 32 = (q : Int) := by rw [hq]; rfl
   have t2 : Int.tmod (n : Int) 32 = (r : Int) := by rw [hr]; rfl
   have t3 := w64_nat q b1
   have t4 := w64_add i q b2
   have t5 := w64_succ (i + q) b3
   have t6 := w64_succ i b4
   have r1 := rd_at hp
   have r2 := rd_at hu
   have s0 := u64_nat p b5
   have s1 := shl64_nat p r b6 hr31
   have s2 := mod32_nat (p * 2 ^ r)
   have s3 : ((p * 2 ^ r : Nat) : Int) / 4294967296 % 4294967296 = ((p * 2 ^ r / 4294967296 : Nat) : Int) := by rw [div32_nat, mod32_nat, Nat.mod_eq_of_lt b7]
   have o1 := nat_Shift.or_sum (r := r) b8 hu1 hlo b9
   have r3 : rd (x.set (i + q) ((u + p * 2 ^ r % 4294967296 : Nat) : Int)) ((i + q + 1 : Nat) : Int) = ((0 : Nat) : Int) := by
    rw [rd_nat, List.getD_eq_getElem?_getD, List.getElem?_set_ne (Nat.ne_of_lt (Nat.lt_succ_self _)), ← List.getD_eq_getElem?_getD, hx1]
    rfl
   have o2 : Go.bits .or .u32 ((0 : Nat) : Int) ((p * 2 ^ r / 4294967296 : Nat) : Int) = ((p * 2 ^ r / 4294967296 : Nat) : Int) := by
    have := nat_Shift.or_sum (r := 0) (x := 0) (y := p * 2 ^ r / 4294967296) (Nat.zero_le _) (by decide) (Nat.mod_one _) b7
    rw [this, Nat.zero_add]
   simp only [nat_Shift.l0, t1, t2, t3, t4, t5, t6]
   rw [if_pos c1, if_pos c2, if_pos c1, if_pos c4, if_pos c5, if_pos c6, r1, r2, s0, s1, s2, s3, o1]
   simp only [Option.bind_some]
   rw [if_pos c7, if_pos c8]
   simp only [Int.toNat_natCast]
   rw [r3, o2]
  ·have hM : u + p * 2 ^ r % 4294967296 < 4294967296 := by
    have h1 : p * 2 ^ r % 4294967296 + 2 ^ r ≤ 4294967296 := by
     obtain ⟨m, hm⟩ := Nat.dvd_of_mod_eq_zero hlo
     obtain ⟨m', hm'⟩ : 2 ^ r ∣ 4294967296 := Nat.pow_dvd_pow 2 (show r ≤ 32 from by omega)
     have hlt : p * 2 ^ r % 4294967296 < 4294967296 := Nat.mod_lt _ (by omega)
     rw [hm] at hlt ⊢
     rw [hm'] at hlt ⊢
     have := Nat.lt_of_mul_lt_mul_left hlt
     have := Nat.mul_le_mul_left (2 ^ r) (show m + 1 ≤ m' from this)
     rw [Nat.mul_add] at this
     omega
    omega
   refine ih (i + 1) _ (by omega) (by rw [List.length_set, List.length_set]; exact hx) ((hW.set _ (by omega) (by omega)).set _ (by omega) (by omega)) ?_
   have v1 := Num.nv_set (l := x) (i := i + q) (by omega) ((u + p * 2 ^ r % 4294967296 : Nat) : Int)
   have v2 := Num.nv_set (l := x.set (i + q) ((u + p * 2 ^ r % 4294967296 : Nat) : Int)) (i := i + q + 1) (by rw [List.length_set]; omega) ((p * 2 ^ r / 4294967296 : Nat) : Int)
   rw [List.getD_eq_getElem?_getD, List.getElem?_set_ne (by omega), ← List.getD_eq_getElem?_getD, hx1] at v2
   rw [← hu] at v1
   rw [Int.toNat_natCast] at v1 v2
   simp only [Int.toNat_natCast, Int.toNat_zero, Nat.mul_zero, Nat.add_zero] at v1 v2
   rw [Num.nv_take_succ, ← hp, Int.toNat_natCast, Nat.mul_add]
   have hs := Num.split_mul (2 ^ (32 * (i + q))) (p * 2 ^ r)
   rw [Num.pow_succ32] at v2
   have hfin : 2 ^ n * (2 ^ (32 * i) * p) = 2 ^ (32 * (i + q)) * (p * 2 ^ r) := by
    rw [hnq, Nat.pow_add, show 32 * (i + q) = 32 * i + 32 * q from by omega, Nat.pow_add]
    simp only [Nat.mul_assoc, Nat.mul_comm, Nat.mul_left_comm]
   rw [hfin, ← hs, ← hv]
   rw [Nat.mul_add (2 ^ (32 * (i + q)))] at v1
   omega
theorem nat_Shift.ev {a : List Int} (ha : Num.okw a = true) {n : Nat} (hn : n ≤ 65536) : Ev (fun k => nat_Shift.f k a (n : Int)) (Num.nd (2 ^ n * Num.nv a)) := by
 obtain ⟨la, wa⟩ := (Num.okw_iff a).1 ha
 have h := nat_Shift.ev_l wa la hn a.length 0 (List.replicate (a.length + n / 32 + 1) 0) (by omega) (by simp) (Num.Ws.replicate _) (by simp [Num.nv, Num.nv_replicate])
 refine Ev.congr (f := fun k => nat_Shift.j0 k a (n : Int) false) (fun k => ?_) (Ev.step (fun k => ?_) h)
 ·unfold nat_Shift.f
  rw [if_neg (by omega), decide_eq_false (by omega)]
 ·have t1 : Int.tdiv (n : Int) 32 = ((n / 32 : Nat) : Int) := rfl
  have t3 := w64_nat (n / 32) (by omega)
  have t4 := w64_add a.length (n / 32) (by omega)
  have t5 := w64_succ (a.length + n / 32) (by omega)
  have c1 : 0 ≤ ((a.length + n / 32 + 1 : Nat) : Int) := by omega
  have c2 : a.length + n / 32 + 1 ≤ 70368744177664 := by omega
  simp only [nat_Shift.j0, t1, t3, t4, t5]
  rw [if_neg (by decide), if_pos c1, Int.toNat_natCast, if_pos c2]
  rfl
theorem nat_Shift.ev_out {a : List Int} (ha : Num.okw a = true) {n : Int} (hn : n < 0 ∨ 65536 < n) : Ev (fun k => nat_Shift.f k a n) (Num.nd (Num.nv a)) := by
 obtain ⟨la, wa⟩ := (Num.okw_iff a).1 ha
 refine Ev.congr (f := fun k => nat_Shift.j0 k a n true) (fun k => ?_) (Ev.step (f := fun k => (nat_trim.f k a).bind fun t => some t) (fun k => ?_) (Ev.bind (nat_trim.ev wa (by omega)) (Ev.now _)))
 ·unfold nat_Shift.f
  by_cases h : n < 0
  ·rw [if_pos h]
  ·rw [if_neg h, decide_eq_true (by omega)]
 ·simp only [nat_Shift.j0]
  rw [if_pos trivial]
set_option synthInstance.checkSynthOrder false in
open Lin in
instance nat_Shift.t {k : Nat} {l0 : List Int} {a1 : Int} {r : List Int} [h : Ans (nat_Shift.f k l0 a1) r] : Tl Try.prog 79 [.one (.row l0), .one (.val (.int .i64 a1))] (.el (.one (.row r))) := ⟨Tells.of Try.func79 fun out w vs ho hl hv => by
 obtain ⟨u0, u1, rfl, h0, h1⟩ := args2 hl hv
 obtain ⟨A0, c0, rfl, hc0, hr0, hb0⟩ := h0
 obtain rfl := h1.1
 refine (nat_Shift.calls k A0 c0 l0 a1 _ w hr0 hc0 h.out).mono ?_
 rintro e w' ⟨v0_, rfl, gv0_, hb⟩
 exact ⟨_, rfl, row_R gv0_ ho, hb⟩⟩
def whole_Make.f (k : Nat) (a0 : Bool) (l1 : List Int) : Option (Bool × List Int) := (nat_Shift.f k l1 0).bind fun t132 => (if a0 = true then (some (decide ((t132.length : Int) > 0), t132)) else (some (false, t132)))
theorem whole_Make.ev {m : Bool} {l : List Int} {z : Int} {K : Nat} (h : Zn.Is m l z K) (hK : K < 1000000) : Ev (fun k => whole_Make.f k m l) (Zn.zd z) := by
 have hl := h.len
 have S : Ev (fun k => nat_Shift.f k l 0) (Num.nd (2 ^ 0 * Num.nv l)) := nat_Shift.ev (Num.okw_of (by omega) h.ws) (n := 0) (by omega)
 rw [Nat.pow_zero, Nat.one_mul] at S
 rw [← h.val, Zn.zd_zv]
 unfold whole_Make.f
 refine Ev.bind S ?_
 cases m
 ·rw [decide_eq_false (show ¬ (false = true ∧ Num.nv l ≠ 0) by simp)]
  exact Dec.no (by decide) (Ev.now _)
 ·have e : decide (true = true ∧ Num.nv l ≠ 0) = decide (((Num.nd (Num.nv l)).length : Int) > 0) := by
   have := Zn.nd_len_pos (Num.nv l)
   refine decide_eq_decide.2 ⟨fun h => ?_, fun h => ⟨rfl, ?_⟩⟩
   ·have := this.2 h.2
    omega
   ·exact this.1 (by omega)
  rw [e]
  exact Dec.yes rfl (Ev.now _)
set_option synthInstance.checkSynthOrder false in
open Lin in
set_option maxHeartbeats 4000000 in
instance whole_Make.t {k : Nat} {a0 : Bool} {l1 : List Int} {r : Bool × List Int} [h : Ans (whole_Make.f k a0 l1) r] : Tl Try.prog 45 [.one (.val (.bool a0)), .one (.row l1)] (.el (.agg [.val (.bool r.1), .row r.2])) := by
 have h := h.out
 unfold whole_Make.f at h
 repeat' (first | (replace h := Lin.bndK h) | (replace h := Lin.bnd h; obtain ⟨_, _, h⟩ := h) | split at h | cases h)
 all_goals exact ⟨Tells.go Try.func45 Try.ntmps45⟩
def nat_Of.f (k : Nat) (a0 : Int) : Option (List Int) := (nat_trim.f k (([(a0) % 4294967296, (a0 / 4294967296) % 4294967296] : List Int))).bind fun t143 => (some t143)
set_option maxHeartbeats 8000000 in
set_option maxRecDepth 100000 in
theorem nat_Of.calls (k : Nat) (a0 : Int) (r : List Int) (w : World) (h : nat_Of.f k a0 = some r) :
  Calls Try.prog 37 #[.int .u64 a0] w fun e w' => ∃ v0_ : Value, e = .returned (v0_) ∧ Kd.R (Kd.int .u32) 89 w' w.heap.size (fun _ => True) v0_ r ∧ Below w.heap.size w w' := by
 have HB := Aside0.mk (Below.refl w.heap.size w)
 have H : ((nat_trim.f k (([(a0) % 4294967296, (a0 / 4294967296) % 4294967296] : List Int))).bind fun t143 => (some t143)) = some r := h
 clear h
 obtain ⟨y140, hy140⟩ : ∃ y_ : List Int, y_ = (([(a0) % 4294967296, (a0 / 4294967296) % 4294967296] : List Int)) := ⟨_, rfl⟩
 replace H : ((nat_trim.f k y140).bind fun t143 => (some t143)) = some r := by first | (rw [hy140]; with_reducible exact H) | (have H2_ := (Option.bind_some _ _).symm.trans H; rw [hy140]; with_reducible exact H2_) | (have H2_ := (Option.bind_some _ _).symm.trans H; with_reducible exact H2_) | with_reducible exact H | (rw [hy140]; exact H) | exact H
 have Ny140 := Aside0.mk hy140
 clear hy140
 replace H := Option.bind_eq_some_iff.mp H
 obtain ⟨t143, A20, H⟩ := H
 replace H : (some t143) = some r := H
 have A2 := Aside0.mk A20
 clear A20
 obtain rfl := Option.some.inj H
 go_enter Try.func37, Try.ntmps37
 go_wp2_with (first | ((with_reducible refine gate_dst (N := 8) rfl ?_); refine Kd.R_lit (Kd.int .u32) _ 89 ?hg (N := 8) ?hd (xs := ([(a0) % 4294967296, (a0 / 4294967296) % 4294967296] : List Int)) (inner := [.int .u32 ((a0) % 4294967296), .int .u32 ((a0 / 4294967296) % 4294967296)]) (ok := fun _ => True) (okp := fun _ => True) ?hr ?hp (fun _ hk => hk) trivial (Below.refl _ _) (Nat.le_refl _) (by simp) ?_; (case hd => rfl); (case hg => rfl); (case hr => first | (go_simp; done) | (go_simp; rfl)); (case hp => exact (Reps.one (show Kd.M (Kd.int .u32) _ _ _ ((a0) % 4294967296) [.int .u32 ((a0) % 4294967296)] from rfl) (Reps.one (show Kd.M (Kd.int .u32) _ _ _ ((a0 / 4294967296) % 4294967296) [.int .u32 ((a0 / 4294967296) % 4294967296)] from rfl) (Reps.none _ _)))); intro v141 w3 ho4 hb hg_ hnew_; clear hg_ hnew_; (first | rw [← Ny140.out] at ho4 | (simp only [Int.reduceToNat] at ho4; rw [← Ny140.out] at ho4)); have HO142 := Aside0.mk (Kd.R_lower ho4 (below_size (by repeat (first | (with_reducible first | exact HB.out | apply below_alloc | apply pw_below_drewN | apply below_drew1) | exact HB.out)))); replace HB := Aside0.mk (below_step (by repeat (first | (with_reducible first | exact HB.out | apply below_alloc | apply pw_below_drewN | apply below_drew1) | exact HB.out)) hb); clear hb ho4; obtain ⟨Ao5, co5, eo5⟩ := Kd.R_slice HO142.out; subst eo5) | ((with_reducible refine gate_callee (f := 71) rfl ?_); refine Short.goesS_ (some 9) Try.func71 #[.slice Ao5 y140.length co5] ?_; (with_reducible refine (nat_trim.calls k _ _ y140 t143 _ ((Kd.R_reads' HO142.out).2.2) ((Kd.R_reads' HO142.out).2.1) A2.out).mono ?_); rintro e w6 ⟨v144, rfl, ho0, hb⟩; refine ⟨_, rfl, ?_⟩; have HO145 := Aside0.mk (Kd.R_lower (Kd.R_new' ho0 (Kd.R_lt HO142.out)) (below_size (by repeat (first | (with_reducible first | exact HB.out | apply below_alloc | apply pw_below_drewN | apply below_drew1) | exact HB.out)))); replace HO142 := Aside0.mk (Kd.R_elder' HO142.out (Kd.R_base ho0) hb); replace HB := Aside0.mk (below_step (by repeat (first | (with_reducible first | exact HB.out | apply below_alloc | apply pw_below_drewN | apply below_drew1) | exact HB.out)) hb); (try clear hb); (try clear ho0)))
 go_ret
 exact ⟨_, by rfl, by (with_reducible repeat (first | apply Kd.R_alloc | apply Kd.R_drewN | apply Kd.R_drew)); exact Kd.R_mono HO145.out (fun _ hk => trivial), by repeat (first | (with_reducible first | exact HB.out | apply below_alloc | apply pw_below_drewN | apply below_drew1) | exact HB.out)⟩

theorem nat_Of.ev (n : Nat) (h : n < 18446744073709551616) : Ev (fun k => nat_Of.f k (n : Int)) (Num.nd n) := by
 have hW : Num.Ws [(n : Int) % 4294967296, ((n : Int) / 4294967296) % 4294967296] := Num.Ws.cons (by omega) (by omega) (Num.Ws.cons (by omega) (by omega) Num.Ws.nil)
 have hv : Num.nv [(n : Int) % 4294967296, ((n : Int) / 4294967296) % 4294967296] = n := by simp only [Num.nv]; omega
 have := nat_trim.ev hW (by simp)
 rw [hv] at this
 unfold nat_Of.f
 exact Ev.bind this (Ev.now _)
set_option synthInstance.checkSynthOrder false in
open Lin in
instance nat_Of.t {k : Nat} {a0 : Int} {r : List Int} [h : Ans (nat_Of.f k a0) r] : Tl Try.prog 37 [.one (.val (.int .u64 a0))] (.el (.one (.row r))) := ⟨Tells.of Try.func37 fun out w vs ho hl hv => by
 obtain ⟨u0, rfl, h0⟩ := args1 hl hv
 obtain rfl := h0.1
 refine (nat_Of.calls k a0 _ w h.out).mono ?_
 rintro e w' ⟨v0_, rfl, gv0_, hb⟩
 exact ⟨_, rfl, row_R gv0_ ho, hb⟩⟩
mutual
def nat_Mul.l0 : Nat → List Int → List Int → List Int → Int → Int → Option (List Int)
 | 0, _, _, _, _, _ => none
 | k + 1, x1, x5, x17, x18, x19 => if x19 < x18 then (if 0 ≤ x19 then (if x19 < (x17.length : Int) then (nat_Mul.l1 k x1 x5 x19 (rd x17 x19) 0 x17 x18 x19 x1 (x1.length : Int) 0) else (none)) else (none)) else ((nat_trim.f k x5).bind fun t241 => (some t241))
def nat_Mul.l1 : Nat → List Int → List Int → Int → Int → Int → List Int → Int → Int → List Int → Int → Int → Option (List Int)
 | 0, _, _, _, _, _, _, _, _, _, _, _ => none
 | k + 1, x1, x5, x6, x7, x8, x17, x18, x19, x24, x25, x26 => if x26 < x25 then (if 0 ≤ x26 then (if x26 < (x24.length : Int) then (if 0 ≤ (wrap64 (x6 + x26)) then (if (wrap64 (x6 + x26)) < (x5.length : Int) then (nat_Mul.l1 k x1 (x5.set ((wrap64 (x6 + x26)) : Int).toNat ((IntKind.u64.wrap (x8 + (IntKind.u64.wrap ((IntKind.u64.wrap ((IntKind.u64.wrap (x7)) * (IntKind.u64.wrap (rd x24 x26)))) + (IntKind.u64.wrap (rd x5 (wrap64 (x6 + x26)))))))) % 4294967296)) x6 x7 ((IntKind.u64.wrap (x8 + (IntKind.u64.wrap ((IntKind.u64.wrap ((IntKind.u64.wrap (x7)) * (IntKind.u64.wrap (rd x24 x26)))) + (IntKind.u64.wrap (rd x5 (wrap64 (x6 + x26)))))))) / 4294967296) x17 x18 x19 x24 x25 (wrap64 (x26 + 1))) else (none)) else (none)) else (none)) else (none)) else (if 0 ≤ (wrap64 (x6 + (x1.length : Int))) then (if (wrap64 (x6 + (x1.length : Int))) < (x5.length : Int) then (nat_Mul.l0 k x1 (x5.set ((wrap64 (x6 + (x1.length : Int))) : Int).toNat ((x8) % 4294967296)) x17 x18 (wrap64 (x19 + 1))) else (none)) else (none))
end
def nat_Mul.f (k : Nat) (l0 : List Int) (l1 : List Int) : Option (List Int) := if 0 ≤ (wrap64 ((l0.length : Int) + (l1.length : Int))) then (if (wrap64 ((l0.length : Int) + (l1.length : Int)) : Int).toNat ≤ 70368744177664 then (nat_Mul.l0 k l1 (List.replicate (wrap64 ((l0.length : Int) + (l1.length : Int)) : Int).toNat 0) l0 (l0.length : Int) 0) else (none)) else (none)
set_option maxHeartbeats 8000000 in
set_option maxRecDepth 100000 in
theorem nat_Mul.calls (k : Nat) (A0 : Option Addr) (c0 : Nat) (l0 : List Int) (A1 : Option Addr) (c1 : Nat) (l1 : List Int) (r : List Int) (w : World) (hr0 : Kd.C (Kd.int .u32) w A0 l0.length l0) (hc0 : l0.length ≤ c0) (hr1 : Kd.C (Kd.int .u32) w A1 l1.length l1) (hc1 : l1.length ≤ c1) (h : nat_Mul.f k l0 l1 = some r) :
  Calls Try.prog 66 #[.slice A0 l0.length c0, .slice A1 l1.length c1] w fun e w' => ∃ v0_ : Value, e = .returned (v0_) ∧ Kd.R (Kd.int .u32) 89 w' w.heap.size (fun _ => True) v0_ r ∧ Below w.heap.size w w' := by
 have HR0 := Aside0.mk hr0
 have HC0 := Aside0.mk hc0
 clear hr0 hc0
 have HR1 := Aside0.mk hr1
 have HC1 := Aside0.mk hc1
 clear hr1 hc1
 have HB := Aside0.mk (Below.refl w.heap.size w)
 have H : (if 0 ≤ (wrap64 ((l0.length : Int) + (l1.length : Int))) then (if (wrap64 ((l0.length : Int) + (l1.length : Int)) : Int).toNat ≤ 70368744177664 then (nat_Mul.l0 k l1 (List.replicate (wrap64 ((l0.length : Int) + (l1.length : Int)) : Int).toNat 0) l0 (l0.length : Int) 0) else (none)) else (none)) = some r := h
 clear h
 obtain ⟨ji3, hji3⟩ : ∃ j_ : Int, (wrap64 ((l0.length : Int) + (l1.length : Int))) = j_ := ⟨_, rfl⟩
 replace H : (if 0 ≤ (ji3) then (if (ji3 : Int).toNat ≤ 70368744177664 then (nat_Mul.l0 k l1 (List.replicate (ji3 : Int).toNat 0) l0 (l0.length : Int) 0) else (none)) else (none)) = some r := by first | (rw [hji3] at H; exact H) | (simp only [hji3] at H ⊢; exact H)
 have hji3w : (IntKind.i64.wrap ((l0.length : Int) + (l1.length : Int))) = ji3 := (i64_w _).trans hji3
 by_cases c4 : 0 ≤ (ji3)
 ·rw [if_pos c4] at H
  have c4b0 := eq_true c4
  have c4b1 : decide (0 ≤ (ji3)) = true := decide_eq_true c4
  clear c4
  by_cases c5 : (ji3 : Int).toNat ≤ 70368744177664
  ·rw [if_pos c5] at H
   have c5b0 := eq_true c5
   have c5b1 : decide ((ji3 : Int).toNat ≤ 70368744177664) = true := decide_eq_true c5
   clear c5
   obtain ⟨y238, hy238⟩ : ∃ y_ : List Int, y_ = (List.replicate (ji3 : Int).toNat 0) := ⟨_, rfl⟩
   replace H : (nat_Mul.l0 k l1 y238 l0 (l0.length : Int) 0) = some r := by first | (rw [hy238]; with_reducible exact H) | (have H2_ := (Option.bind_some _ _).symm.trans H; rw [hy238]; with_reducible exact H2_) | (have H2_ := (Option.bind_some _ _).symm.trans H; with_reducible exact H2_) | with_reducible exact H | (rw [hy238]; exact H) | exact H
   have Ny238 := Aside0.mk hy238
   clear hy238
   have H' := Aside0.mk H
   clear H
   go_enter Try.func66, Try.ntmps66
   go_wp2_with (first | ((with_reducible refine gate_dst (N := 16) rfl ?_); refine Kd.R_make (Kd.int .u32) _ 89 rfl (N := 16) rfl 23 _ _ rfl ji3 rfl rfl Try.underlying23 (.int .u32 0) 4 info89 rfl (by decide) (by omega) 0 (ok := fun _ => True) (okp := fun _ => True) rfl (fun _ hk => hk) trivial (of_decide_eq_true (by first | (with_reducible assumption) | assumption)) (Nat.le_trans (Nat.mul_le_mul_right _ (of_decide_eq_true (by first | (with_reducible assumption) | assumption) : ji3.toNat ≤ 70368744177664)) (by omega)) (Below.refl _ _) (Nat.le_refl _) ?_; intro v239 w6 ho7 hb hg_ hnew_; clear hg_ hnew_; (first | rw [← Ny238.out] at ho7 | (simp only [Int.reduceToNat] at ho7; rw [← Ny238.out] at ho7)); have HO240 := Aside0.mk (Kd.R_lower ho7 (below_size (by repeat (first | (with_reducible first | exact HB.out | apply below_alloc | apply pw_below_drewN | apply below_drew1) | exact HB.out)))); replace HB := Aside0.mk (below_step (by repeat (first | (with_reducible first | exact HB.out | apply below_alloc | apply pw_below_drewN | apply below_drew1) | exact HB.out)) hb); clear hb ho7))
   go_loopg [19] k (fun kq v19 w' => ∃ (x5_1 : List Int) (x19_1 : Int), v19 = .int .i64 x19_1 ∧ Aside0 (nat_Mul.l0 kq l1 x5_1 l0 (l0.length : Int) x19_1 = some r) ∧ Aside0 (kq ≤ k) ∧ Aside0 (Kd.R (Kd.int .u32) 89 w' w.heap.size (fun _ => True) v239 x5_1) ∧ Aside0 (Below w.heap.size w w'))
   case atStart => exact ⟨(y238), (0), (by first | rfl | (simp; done) | (simp [*]; done)), H', ⟨Nat.le_refl _⟩, ⟨by (with_reducible repeat (first | apply Kd.R_alloc | apply Kd.R_drewN | apply Kd.R_drew)); exact HO240.out⟩, ⟨by repeat (first | (with_reducible first | exact HB.out | apply below_alloc | apply pw_below_drewN | apply below_drew1) | exact HB.out)⟩⟩
   case round =>
    clear H'
    try clear c1
    try clear p2
    try clear c4
    try clear c4b0
    try clear c4b1
    try clear c5
    try clear c5b0
    try clear c5b1
    try clear c6
    try clear p6
    obtain ⟨x5_1, x19_1, rfl, HA, HK1, HO_5, HB⟩ := hrel
    cases gk with
    | zero => exact absurd HA.out (by simp [nat_Mul.l0])
    | succ k1 =>
     have H := HA.out
     clear HA
     simp only [nat_Mul.l0] at H
     by_cases c8 : x19_1 < (l0.length : Int)
     ·rw [if_pos c8] at H
      have c8b0 : decide (x19_1 < (l0.length : Int)) = true := decide_eq_true c8
      clear c8
      by_cases c9 : 0 ≤ x19_1
      ·rw [if_pos c9] at H
       have c9b0 : decide (0 ≤ x19_1) = true := decide_eq_true c9
       clear c9
       by_cases c10 : x19_1 < (l0.length : Int)
       ·rw [if_pos c10] at H
        have c10b0 : decide (x19_1 < (l0.length : Int)) = true := decide_eq_true c10
        clear c10
        have H' := Aside0.mk H
        clear H
        have p244 : 0 ≤ (x19_1 : Int) := of_decide_eq_true (by first | (with_reducible assumption) | assumption)
        have q244 : x19_1 < (l0.length : Int) := of_decide_eq_true (by first | (with_reducible assumption) | assumption)
        obtain ⟨ad244, e244, hx244_0⟩ := Kd.at_int HR0.out x19_1 p244 q244
        cases e244
        replace hx244_0 := (HB.out.cell (World.block_lt_of_cell? w _ hx244_0)).trans hx244_0
        replace p244 := eq_true p244
        replace q244 := eq_true q244
        go_wp2
        go_loopg [8, 26] k1 (fun kq v8 v26 w' => ∃ (x5_2 : List Int) (x8_2 : Int) (x26_2 : Int), v8 = .int .u64 x8_2 ∧ v26 = .int .i64 x26_2 ∧ Aside0 (nat_Mul.l1 kq l1 x5_2 x19_1 (rd l0 x19_1) x8_2 l0 (l0.length : Int) x19_1 l1 (l1.length : Int) x26_2 = some r) ∧ Aside0 (kq ≤ k1) ∧ Aside0 (Kd.R (Kd.int .u32) 89 w' w.heap.size (fun _ => True) v239 x5_2) ∧ Aside0 (Below w.heap.size w w'))
        case atStart => exact ⟨(x5_1), (0), (0), (by first | rfl | (simp; done) | (simp [*]; done)), (by first | rfl | (simp; done) | (simp [*]; done)), H', ⟨Nat.le_refl _⟩, ⟨by (with_reducible repeat (first | apply Kd.R_alloc | apply Kd.R_drewN | apply Kd.R_drew)); exact HO_5.out⟩, ⟨by repeat (first | (with_reducible first | exact HB.out | apply below_alloc | apply pw_below_drewN | apply below_drew1) | exact HB.out)⟩⟩
        case round =>
         clear H'
         try clear c1
         try clear p2
         try clear q2
         try clear hx2
         try clear c4
         try clear c4b0
         try clear c4b1
         try clear c5
         try clear c5b0
         try clear c5b1
         try clear c6
         try clear p6
         try clear c8
         try clear c8b0
         try clear c9
         try clear c9b0
         try clear c10
         try clear c10b0
         try clear hx244_0
         try clear p2
         try clear p244
         try clear p6
         try clear q244
         obtain ⟨x5_2, x8_2, x26_2, rfl, rfl, HA, HK2, HO_5, HB⟩ := hrel
         cases gk with
         | zero => exact absurd HA.out (by simp [nat_Mul.l1])
         | succ k2 =>
          have H := HA.out
          clear HA
          simp only [nat_Mul.l1] at H
          by_cases c11 : x26_2 < (l1.length : Int)
          ·rw [if_pos c11] at H
           have c11b0 : decide (x26_2 < (l1.length : Int)) = true := decide_eq_true c11
           clear c11
           by_cases c12 : 0 ≤ x26_2
           ·rw [if_pos c12] at H
            have c12b0 : decide (0 ≤ x26_2) = true := decide_eq_true c12
            clear c12
            by_cases c13 : x26_2 < (l1.length : Int)
            ·rw [if_pos c13] at H
             have c13b0 : decide (x26_2 < (l1.length : Int)) = true := decide_eq_true c13
             clear c13
             obtain ⟨ji14, hji14⟩ : ∃ j_ : Int, (wrap64 (x19_1 + x26_2)) = j_ := ⟨_, rfl⟩
             replace H : (if 0 ≤ (ji14) then (if (ji14) < (x5_2.length : Int) then (nat_Mul.l1 k2 l1 (x5_2.set ((ji14) : Int).toNat ((IntKind.u64.wrap (x8_2 + (IntKind.u64.wrap ((IntKind.u64.wrap ((IntKind.u64.wrap ((rd l0 x19_1))) * (IntKind.u64.wrap (rd l1 x26_2)))) + (IntKind.u64.wrap (rd x5_2 (ji14))))))) % 4294967296)) x19_1 (rd l0 x19_1) ((IntKind.u64.wrap (x8_2 + (IntKind.u64.wrap ((IntKind.u64.wrap ((IntKind.u64.wrap ((rd l0 x19_1))) * (IntKind.u64.wrap (rd l1 x26_2)))) + (IntKind.u64.wrap (rd x5_2 (ji14))))))) / 4294967296) l0 (l0.length : Int) x19_1 l1 (l1.length : Int) (wrap64 (x26_2 + 1))) else (none)) else (none)) = some r := by first | (rw [hji14] at H; exact H) | (simp only [hji14] at H ⊢; exact H)
             have hji14w : (IntKind.i64.wrap (x19_1 + x26_2)) = ji14 := (i64_w _).trans hji14
             by_cases c15 : 0 ≤ (ji14)
             ·rw [if_pos c15] at H
              have c15b0 : decide (0 ≤ (ji14)) = true := decide_eq_true c15
              clear c15
              by_cases c16 : (ji14) < (x5_2.length : Int)
              ·rw [if_pos c16] at H
               have c16b0 : decide ((ji14) < (x5_2.length : Int)) = true := decide_eq_true c16
               clear c16
               obtain ⟨y247, hy247⟩ : ∃ y_ : List Int, y_ = (x5_2.set ((ji14) : Int).toNat ((IntKind.u64.wrap (x8_2 + (IntKind.u64.wrap ((IntKind.u64.wrap ((IntKind.u64.wrap ((rd l0 x19_1))) * (IntKind.u64.wrap (rd l1 x26_2)))) + (IntKind.u64.wrap (rd x5_2 (ji14))))))) % 4294967296)) := ⟨_, rfl⟩
               replace H : (nat_Mul.l1 k2 l1 y247 x19_1 (rd l0 x19_1) ((IntKind.u64.wrap (x8_2 + (IntKind.u64.wrap ((IntKind.u64.wrap ((IntKind.u64.wrap ((rd l0 x19_1))) * (IntKind.u64.wrap (rd l1 x26_2)))) + (IntKind.u64.wrap (rd x5_2 (ji14))))))) / 4294967296) l0 (l0.length : Int) x19_1 l1 (l1.length : Int) (wrap64 (x26_2 + 1))) = some r := by first | (rw [hy247]; with_reducible exact H) | (have H2_ := (Option.bind_some _ _).symm.trans H; rw [hy247]; with_reducible exact H2_) | (have H2_ := (Option.bind_some _ _).symm.trans H; with_reducible exact H2_) | with_reducible exact H | (rw [hy247]; exact H) | exact H
               have Ny247 := Aside0.mk hy247
               clear hy247
               have H' := Aside0.mk H
               clear H
               have p245 : 0 ≤ (x26_2 : Int) := of_decide_eq_true (by first | (with_reducible assumption) | assumption)
               have q245 : x26_2 < (l1.length : Int) := of_decide_eq_true (by first | (with_reducible assumption) | assumption)
               obtain ⟨ad245, e245, hx245_0⟩ := Kd.at_int HR1.out x26_2 p245 q245
               cases e245
               replace hx245_0 := (HB.out.cell (World.block_lt_of_cell? w _ hx245_0)).trans hx245_0
               replace p245 := eq_true p245
               replace q245 := eq_true q245
               obtain ⟨Ao18, co18, eo18⟩ := Kd.R_slice HO_5.out
               subst eo18
               have p246 : 0 ≤ ((ji14) : Int) := of_decide_eq_true (by first | (with_reducible assumption) | assumption)
               have q246 : (ji14) < (x5_2.length : Int) := of_decide_eq_true (by first | (with_reducible assumption) | assumption)
               obtain ⟨ad246, e246, hx246_0⟩ := Kd.at_int (Kd.R_reads' HO_5.out).2.2 (ji14) p246 q246
               cases e246
               replace p246 := eq_true p246
               replace q246 := eq_true q246
               have p17 : 0 ≤ ((ji14) : Int) := of_decide_eq_true (by first | (with_reducible assumption) | assumption)
               have q17 : ((ji14) : Int) < ((x5_2.length : Int) : Int) := of_decide_eq_true (by first | (with_reducible assumption) | assumption)
               obtain ⟨go17, co17, eo17, gb17, gl17, cl17, HG17⟩ := Kd.R_form HO_5.out (by omega)
               (first | cases eo17 | (injection eo17 with ea_ en_ ec_; (first | subst ea_ | (injection ea_ with ea_; subst ea_)); subst ec_; clear en_))
               have GB17 := Aside0.mk gb17
               have GG17 := Aside0.mk HG17
               clear gb17 gl17 HG17
               (first | simp only [add_plain] at hx246_0 | skip)
               obtain ⟨hx17_0, hf17_0⟩ := Kd.R_celln 0 HO_5.out ((ji14) : Int) p17 q17
               replace p17 := eq_true p17
               replace q17 := eq_true q17
               have HP19 := Kd.R_putg HO_5.out ((ji14) : Int) ((IntKind.u64.wrap (x8_2 + (IntKind.u64.wrap ((IntKind.u64.wrap ((IntKind.u64.wrap ((rd l0 x19_1))) * (IntKind.u64.wrap (rd l1 x26_2)))) + (IntKind.u64.wrap (rd x5_2 (ji14))))))) % 4294967296)
               go_wp2_with (first | ((with_reducible refine gate_store (t := 89) (p := 52) rfl ?_); refine store_event (t := 89) (p := 52) (v := ?vo_w20) (w1 := (wr.setCell ⟨go17, ((ji14) : Int).toNat, none⟩ (.int .u32 ((IntKind.u64.wrap (x8_2 + (IntKind.u64.wrap ((IntKind.u64.wrap ((IntKind.u64.wrap ((rd l0 x19_1))) * (IntKind.u64.wrap (rd l1 x26_2)))) + (IntKind.u64.wrap (rd x5_2 (ji14))))))) % 4294967296)))) ?hg ?ho ?hn ?hr ?_; (case ho => rfl); (case hg => rfl); (case hn => rfl); (case hr => first | (go_simp; done) | (go_simp; rfl)); intro w20 hw; have hg : wr.grownBy w20 (some go17) := (by rw [hw]; exact HP19.2); have hp_ : Kd.R (Kd.int .u32) 89 w20 w.heap.size (fun _ => True) (.slice (some ⟨go17, 0, none⟩) x5_2.length co18) y247 := (by rw [hw, Ny247.out]; exact HP19.1); clear HP19; replace HO_5 := Aside0.mk (hp_); replace HB := Aside0.mk ((by rw [hw]; exact below_set (HB.out) GB17.out : Below w.heap.size w w20)); clear hg hw hp_))
               go_roundg k2
               case measure => have := HK1.out; have := HK2.out; omega
               case rel => exact ⟨(y247), ((IntKind.u64.wrap (x8_2 + (IntKind.u64.wrap ((IntKind.u64.wrap ((IntKind.u64.wrap ((rd l0 x19_1))) * (IntKind.u64.wrap (rd l1 x26_2)))) + (IntKind.u64.wrap (rd x5_2 (ji14))))))) / 4294967296), (wrap64 (x26_2 + 1)), (by first | rfl | (simp; done) | (simp only [← hji14] <;> (first | rfl | simp)) | (simp [*]; done)), (by first | rfl | (simp; done) | (simp [*]; done)), H', ⟨by have := HK1.out; have := HK2.out; omega⟩, ⟨by (with_reducible repeat (first | apply Kd.R_alloc | apply Kd.R_drewN | apply Kd.R_drew)); exact HO_5.out⟩, ⟨by repeat (first | (with_reducible first | exact HB.out | apply below_alloc | apply pw_below_drewN | apply below_drew1) | exact HB.out)⟩⟩
              ·rw [if_neg c16] at H
               exact absurd H (by simp)
             ·rw [if_neg c15] at H
              exact absurd H (by simp)
            ·rw [if_neg c13] at H
             exact absurd H (by simp)
           ·rw [if_neg c12] at H
            exact absurd H (by simp)
          ·rw [if_neg c11] at H
           have c11b0 : decide (x26_2 < (l1.length : Int)) = false := decide_eq_false c11
           clear c11
           obtain ⟨ji21, hji21⟩ : ∃ j_ : Int, (wrap64 (x19_1 + (l1.length : Int))) = j_ := ⟨_, rfl⟩
           replace H : (if 0 ≤ (ji21) then (if (ji21) < (x5_2.length : Int) then (nat_Mul.l0 k2 l1 (x5_2.set ((ji21) : Int).toNat ((x8_2) % 4294967296)) l0 (l0.length : Int) (wrap64 (x19_1 + 1))) else (none)) else (none)) = some r := by first | (rw [hji21] at H; exact H) | (simp only [hji21] at H ⊢; exact H)
           have hji21w : (IntKind.i64.wrap (x19_1 + (l1.length : Int))) = ji21 := (i64_w _).trans hji21
           by_cases c22 : 0 ≤ (ji21)
           ·rw [if_pos c22] at H
            have c22b0 : decide (0 ≤ (ji21)) = true := decide_eq_true c22
            clear c22
            by_cases c23 : (ji21) < (x5_2.length : Int)
            ·rw [if_pos c23] at H
             have c23b0 : decide ((ji21) < (x5_2.length : Int)) = true := decide_eq_true c23
             clear c23
             obtain ⟨y248, hy248⟩ : ∃ y_ : List Int, y_ = (x5_2.set ((ji21) : Int).toNat ((x8_2) % 4294967296)) := ⟨_, rfl⟩
             replace H : (nat_Mul.l0 k2 l1 y248 l0 (l0.length : Int) (wrap64 (x19_1 + 1))) = some r := by first | (rw [hy248]; with_reducible exact H) | (have H2_ := (Option.bind_some _ _).symm.trans H; rw [hy248]; with_reducible exact H2_) | (have H2_ := (Option.bind_some _ _).symm.trans H; with_reducible exact H2_) | with_reducible exact H | (rw [hy248]; exact H) | exact H
             have Ny248 := Aside0.mk hy248
             clear hy248
             have H' := Aside0.mk H
             clear H
             have p24 : 0 ≤ ((ji21) : Int) := of_decide_eq_true (by first | (with_reducible assumption) | assumption)
             have q24 : ((ji21) : Int) < ((x5_2.length : Int) : Int) := of_decide_eq_true (by first | (with_reducible assumption) | assumption)
             obtain ⟨go24, co24, eo24, gb24, gl24, cl24, HG24⟩ := Kd.R_form HO_5.out (by omega)
             (first | cases eo24 | (injection eo24 with ea_ en_ ec_; (first | subst ea_ | (injection ea_ with ea_; subst ea_)); subst ec_; clear en_))
             have GB24 := Aside0.mk gb24
             have GG24 := Aside0.mk HG24
             clear gb24 gl24 HG24
             obtain ⟨hx24_0, hf24_0⟩ := Kd.R_celln 0 HO_5.out ((ji21) : Int) p24 q24
             replace p24 := eq_true p24
             replace q24 := eq_true q24
             have HP25 := Kd.R_putg HO_5.out ((ji21) : Int) ((x8_2) % 4294967296)
             go_wp2_with (first | ((with_reducible refine gate_store (t := 89) (p := 63) rfl ?_); refine store_event (t := 89) (p := 63) (v := ?vo_w26) (w1 := (wr.setCell ⟨go24, ((ji21) : Int).toNat, none⟩ (.int .u32 ((x8_2) % 4294967296)))) ?hg ?ho ?hn ?hr ?_; (case ho => rfl); (case hg => rfl); (case hn => rfl); (case hr => first | (go_simp; done) | (go_simp; rfl)); intro w26 hw; have hg : wr.grownBy w26 (some go24) := (by rw [hw]; exact HP25.2); have hp_ : Kd.R (Kd.int .u32) 89 w26 w.heap.size (fun _ => True) (.slice (some ⟨go24, 0, none⟩) x5_2.length co24) y248 := (by rw [hw, Ny248.out]; exact HP25.1); clear HP25; replace HO_5 := Aside0.mk (hp_); replace HB := Aside0.mk ((by rw [hw]; exact below_set (HB.out) GB24.out : Below w.heap.size w w26)); clear hg hw hp_))
             go_roundg k2
             case measure => have := HK1.out; have := HK2.out; omega
             case rel => exact ⟨(y248), (wrap64 (x19_1 + 1)), (by first | rfl | (simp; done) | (simp [*]; done)), H', ⟨by have := HK1.out; have := HK2.out; omega⟩, ⟨by (with_reducible repeat (first | apply Kd.R_alloc | apply Kd.R_drewN | apply Kd.R_drew)); exact HO_5.out⟩, ⟨by repeat (first | (with_reducible first | exact HB.out | apply below_alloc | apply pw_below_drewN | apply below_drew1) | exact HB.out)⟩⟩
            ·rw [if_neg c23] at H
             exact absurd H (by simp)
           ·rw [if_neg c22] at H
            exact absurd H (by simp)
       ·rw [if_neg c10] at H
        exact absurd H (by simp)
      ·rw [if_neg c9] at H
       exact absurd H (by simp)
     ·rw [if_neg c8] at H
      have c8b0 : decide (x19_1 < (l0.length : Int)) = false := decide_eq_false c8
      clear c8
      replace H := Option.bind_eq_some_iff.mp H
      obtain ⟨t241, A270, H⟩ := H
      replace H : (some t241) = some r := H
      have A27 := Aside0.mk A270
      clear A270
      obtain rfl := Option.some.inj H
      obtain ⟨Ao28, co28, eo28⟩ := Kd.R_slice HO_5.out
      subst eo28
      go_wp2_with (first | ((with_reducible refine gate_callee (f := 71) rfl ?_); refine Short.goesS_ (some 66) Try.func71 #[.slice Ao28 x5_1.length co28] ?_; (with_reducible refine (nat_trim.calls k1 _ _ x5_1 t241 _ ((Kd.R_reads' HO_5.out).2.2) ((Kd.R_reads' HO_5.out).2.1) A27.out).mono ?_); rintro e w29 ⟨v242, rfl, ho0, hb⟩; refine ⟨_, rfl, ?_⟩; have HO243 := Aside0.mk (Kd.R_lower (Kd.R_new' ho0 (Kd.R_lt HO_5.out)) (below_size (by repeat (first | (with_reducible first | exact HB.out | apply below_alloc | apply pw_below_drewN | apply below_drew1) | exact HB.out)))); replace HO_5 := Aside0.mk (Kd.R_elder' HO_5.out (Kd.R_base ho0) hb); replace HB := Aside0.mk (below_step (by repeat (first | (with_reducible first | exact HB.out | apply below_alloc | apply pw_below_drewN | apply below_drew1) | exact HB.out)) hb); (try clear hb); (try clear ho0)))
      go_ret
      exact ⟨_, by first | rfl | (simp [errW_none, errW_some] <;> rfl) | (simp only [← hji3]; first | rfl | (simp [errW_none, errW_some] <;> rfl)) | (simp [*, errW_none, errW_some] <;> rfl), by (with_reducible repeat (first | apply Kd.R_alloc | apply Kd.R_drewN | apply Kd.R_drew)); exact Kd.R_mono HO243.out (fun _ hk => trivial), by repeat (first | (with_reducible first | exact HB.out | apply below_alloc | apply pw_below_drewN | apply below_drew1) | exact HB.out)⟩
  ·rw [if_neg c5] at H
   exact absurd H (by simp)
 ·rw [if_neg c4] at H
  exact absurd H (by simp)

theorem nat_Mul.ev_in {a b : List Int} (ha : Num.Ws a) (hb : Num.Ws b) (hla : a.length < 1099511627776) (hlb : b.length < 1099511627776) {i p : Nat} (hi : i < a.length) (hp : p < 4294967296) (y : List Int) (R : List Int)
  (hend : ∀ x : List Int, x.length = a.length + b.length → Num.Ws x → ∀ c : Nat, c < 4294967296 → (∀ t, i + b.length ≤ t → x.getD t 0 = y.getD t 0) → Num.nv x + 2 ^ (32 * (i + b.length)) * c = Num.nv y + 2 ^ (32 * i) * (p * Num.nv b) →
   Ev (fun k => nat_Mul.l0 k b (x.set (i + b.length) ((c : Int) % 4294967296)) a (a.length : Int) ((i + 1 : Nat) : Int)) R) (d : Nat) :
  ∀ (j : Nat) (x : List Int) (c : Nat), j + d = b.length → x.length = a.length + b.length → Num.Ws x → c < 4294967296 → (∀ t, i + j ≤ t → x.getD t 0 = y.getD t 0) → Num.nv x + 2 ^ (32 * (i + j)) * c = Num.nv y + 2 ^ (32 * i) * (p * Num.nv (b.take j)) →
   Ev (fun k => nat_Mul.l1 k b x (i : Int) (p : Int) (c : Int) a (a.length : Int) (i : Int) b (b.length : Int) (j : Int)) R := by
 induction d with
 | zero =>
  intro j x c hj hx hW hc hs hv
  obtain rfl : j = b.length := by omega
  rw [List.take_length] at hv
  have c1 : ¬ (b.length : Int) < (b.length : Int) := by omega
  have c2 : 0 ≤ ((i + b.length : Nat) : Int) := by omega
  have c3 : ((i + b.length : Nat) : Int) < (x.length : Int) := by omega
  have b1 : i + b.length < 9223372036854775808 := by omega
  have b2 : i + 1 < 9223372036854775808 := by omega
  refine Ev.step (f := fun k => nat_Mul.l0 k b (x.set (i + b.length) ((c : Int) % 4294967296)) a (a.length : Int) ((i + 1 : Nat) : Int)) (fun k => ?_) (hend x hx hW c hc hs hv)
  simp only [nat_Mul.l1, w64_add i b.length b1, w64_succ i b2]
  rw [if_neg c1, if_pos c2, if_pos c3, Int.toNat_natCast]
 | succ d ih =>
  intro j x c hj hx hW hc hs hv
  have hgb := hb.getD j
  have hgx := hW.getD (i + j)
  obtain ⟨q, hq⟩ : ∃ q : Nat, (q : Int) = b.getD j 0 := ⟨(b.getD j 0).toNat, by omega⟩
  obtain ⟨u, hu⟩ : ∃ u : Nat, (u : Int) = x.getD (i + j) 0 := ⟨(x.getD (i + j) 0).toNat, by omega⟩
  have hpq : p * q ≤ 4294967295 * 4294967295 := Nat.mul_le_mul (by omega) (by omega)
  have b0 : i + j < 9223372036854775808 := by omega
  have b1 : j + 1 < 9223372036854775808 := by omega
  have b2 : p < 18446744073709551616 := by omega
  have b3 : q < 18446744073709551616 := by omega
  have b4 : u < 18446744073709551616 := by omega
  have b5 : p * q < 18446744073709551616 := by omega
  have b6 : p * q + u < 18446744073709551616 := by omega
  have b7 : c + (p * q + u) < 18446744073709551616 := by omega
  have b8 : (c + (p * q + u)) / 4294967296 < 4294967296 := by omega
  have c1 : (j : Int) < (b.length : Int) := by omega
  have c2 : 0 ≤ (j : Int) := by omega
  have c4 : 0 ≤ ((i + j : Nat) : Int) := by omega
  have c5 : ((i + j : Nat) : Int) < (x.length : Int) := by omega
  refine Ev.step (f := fun k => nat_Mul.l1 k b (x.set (i + j) (((c + (p * q + u)) % 4294967296 : Nat) : Int)) (i : Int) (p : Int) (((c + (p * q + u)) / 4294967296 : Nat) : Int) a (a.length : Int) (i : Int) b (b.length : Int) ((j + 1 : Nat) : Int)) (fun k => ?_) ?_
  ·simp only [nat_Mul.l1, w64_add i j b0, w64_succ j b1]
   rw [if_pos c1, if_pos c2, if_pos c1, if_pos c4, if_pos c5, rd_at hq, rd_at hu, u64_nat p b2, u64_nat q b3, u64_nat u b4, u64_mul p q b5, u64_add (p * q) u b6, u64_add c (p * q + u) b7, mod32_nat, div32_nat, Int.toNat_natCast]
  ·refine ih (j + 1) _ _ (by omega) (by rw [List.length_set]; exact hx) (hW.set _ (by omega) (by omega)) b8 ?_ ?_
   ·intro t ht
    rw [← hs t (by omega), List.getD_eq_getElem?_getD, List.getElem?_set_ne (by omega), ← List.getD_eq_getElem?_getD]
   ·have v1 := Num.nv_set (l := x) (i := i + j) (by omega) (((c + (p * q + u)) % 4294967296 : Nat) : Int)
    rw [← hu, Int.toNat_natCast, Int.toNat_natCast] at v1
    have hsp := Num.split_mul (2 ^ (32 * (i + j))) (c + (p * q + u))
    have h2 : 2 ^ (32 * (i + j)) * (c + (p * q + u)) = 2 ^ (32 * (i + j)) * c + (2 ^ (32 * (i + j)) * (p * q) + 2 ^ (32 * (i + j)) * u) := by rw [Nat.mul_add (2 ^ (32 * (i + j))), Nat.mul_add (2 ^ (32 * (i + j)))]
    have h3 : 2 ^ (32 * i) * (p * Num.nv (b.take (j + 1))) = 2 ^ (32 * i) * (p * Num.nv (b.take j)) + 2 ^ (32 * (i + j)) * (p * q) := by
     have h4 : 2 ^ (32 * (i + j)) = 2 ^ (32 * i) * 2 ^ (32 * j) := by rw [← Nat.pow_add]; congr 1; omega
     rw [Num.nv_take_succ, ← hq, Int.toNat_natCast, h4, Nat.mul_add p, Nat.mul_add (2 ^ (32 * i)), Nat.mul_left_comm p, Nat.mul_assoc]
    rw [h3, show i + (j + 1) = i + j + 1 from rfl, Num.pow_succ32]
    omega
theorem nat_Mul.ev_out {a b : List Int} (ha : Num.Ws a) (hb : Num.Ws b) (hla : a.length < 1099511627776) (hlb : b.length < 1099511627776) (d : Nat) : ∀ (i : Nat) (x : List Int), i + d = a.length → x.length = a.length + b.length → Num.Ws x →
  Num.nv x = Num.nv (a.take i) * Num.nv b → Ev (fun k => nat_Mul.l0 k b x a (a.length : Int) (i : Int)) (Num.nd (Num.nv a * Num.nv b)) := by
 induction d with
 | zero =>
  intro i x hi hx hW hv
  obtain rfl : i = a.length := by omega
  rw [List.take_length] at hv
  have c1 : ¬ (a.length : Int) < (a.length : Int) := by omega
  refine Ev.step (f := fun k => (nat_trim.f k x).bind fun t => some t) (fun k => ?_) ?_
  ·simp only [nat_Mul.l0]
   rw [if_neg c1]
  ·rw [← hv]
   exact Ev.bind (nat_trim.ev hW (by omega)) (Ev.now _)
 | succ d ih =>
  intro i x hi hx hW hv
  have hga := ha.getD i
  obtain ⟨p, hp⟩ : ∃ p : Nat, (p : Int) = a.getD i 0 := ⟨(a.getD i 0).toNat, by omega⟩
  have c1 : (i : Int) < (a.length : Int) := by omega
  have c2 : 0 ≤ (i : Int) := by omega
  have htk := Num.nv_take_lt ha i (by omega)
  have hbl := Num.nv_lt hb
  refine Ev.step (f := fun k => nat_Mul.l1 k b x (i : Int) (p : Int) 0 a (a.length : Int) (i : Int) b (b.length : Int) 0) (fun k => ?_) ?_
  ·simp only [nat_Mul.l0]
   rw [if_pos c1, if_pos c2, if_pos c1, rd_at hp]
  ·refine nat_Mul.ev_in ha hb hla hlb (by omega) (by omega) x _ ?_ b.length 0 x 0 (by omega) hx hW (by omega) (fun t _ => rfl) (by simp [Num.nv])
   intro x' hx' hW' c hc hs hv'
   have e : (c : Int) % 4294967296 = (c : Int) := by omega
   rw [e]
   -- the word at i + b.length was a nought
   have hxlt : Num.nv x < 2 ^ (32 * (i + b.length)) * 1 := by
    rw [hv, Nat.mul_one, show 32 * (i + b.length) = 32 * i + 32 * b.length from by omega, Nat.pow_add]
    exact Nat.mul_lt_mul'' htk hbl
   have h0 := (Num.nv_top (l := x) (j := i + b.length) (R := 1) (by omega) (by omega) hxlt).1
   have hz : x'.getD (i + b.length) 0 = x.getD (i + b.length) 0 := hs _ (Nat.le_refl _)
   have v1 := Num.nv_set (l := x') (i := i + b.length) (by omega) (c : Int)
   rw [hz, show (x.getD (i + b.length) 0).toNat = 0 from by omega, Nat.mul_zero, Nat.add_zero, Int.toNat_natCast] at v1
   refine ih (i + 1) _ (by omega) (by rw [List.length_set]; exact hx') (hW'.set _ (by omega) (by omega)) ?_
   rw [v1, hv', hv, Num.nv_take_succ, ← hp, Int.toNat_natCast, Nat.add_mul, Nat.mul_assoc (2 ^ (32 * i))]
theorem nat_Mul.ev {a b : List Int} (ha : Num.okw a = true) (hb : Num.okw b = true) : Ev (fun k => nat_Mul.f k a b) (Num.nd (Num.nv a * Num.nv b)) := by
 obtain ⟨la, wa⟩ := (Num.okw_iff a).1 ha
 obtain ⟨lb, wb⟩ := (Num.okw_iff b).1 hb
 have h := nat_Mul.ev_out wa wb la lb a.length 0 (List.replicate (a.length + b.length) 0) (by omega) (by simp) (Num.Ws.replicate _) (by simp [Num.nv, Num.nv_replicate])
 have b1 : a.length + b.length < 9223372036854775808 := by omega
 have c1 : 0 ≤ ((a.length + b.length : Nat) : Int) := by omega
 have c2 : a.length + b.length ≤ 70368744177664 := by omega
 refine Ev.congr (fun k => ?_) h
 unfold nat_Mul.f
 rw [w64_add _ _ b1, if_pos c1, Int.toNat_natCast, if_pos c2]
 rfl
set_option synthInstance.checkSynthOrder false in
open Lin in
instance nat_Mul.t {k : Nat} {l0 : List Int} {l1 : List Int} {r : List Int} [h : Ans (nat_Mul.f k l0 l1) r] : Tl Try.prog 66 [.one (.row l0), .one (.row l1)] (.el (.one (.row r))) := ⟨Tells.of Try.func66 fun out w vs ho hl hv => by
 obtain ⟨u0, u1, rfl, h0, h1⟩ := args2 hl hv
 obtain ⟨A0, c0, rfl, hc0, hr0, hb0⟩ := h0
 obtain ⟨A1, c1, rfl, hc1, hr1, hb1⟩ := h1
 refine (nat_Mul.calls k A0 c0 l0 A1 c1 l1 _ w hr0 hc0 hr1 hc1 h.out).mono ?_
 rintro e w' ⟨v0_, rfl, gv0_, hb⟩
 exact ⟨_, rfl, row_R gv0_ ho, hb⟩⟩
def nat_at.f (l0 : List Int) (a1 : Int) : Option (Int) := if a1 < (l0.length : Int) then (if 0 ≤ a1 then (some (IntKind.u64.wrap (rd l0 a1))) else (none)) else (some 0)
set_option maxHeartbeats 8000000 in
set_option maxRecDepth 100000 in
theorem nat_at.calls (A0 : Option Addr) (c0 : Nat) (l0 : List Int) (a1 : Int) (r : Int) (w : World) (hr0 : Kd.C (Kd.int .u32) w A0 l0.length l0) (hc0 : l0.length ≤ c0) (h : nat_at.f l0 a1 = some r) :
  Calls Try.prog 93 #[.slice A0 l0.length c0, .int .i64 a1] w fun e w' => e = .returned (.int .u64 r) ∧ Drawn0 w w' := by
 have HR0 := Aside0.mk hr0
 have HC0 := Aside0.mk hc0
 clear hr0 hc0
 have H : (if a1 < (l0.length : Int) then (if 0 ≤ a1 then (some (IntKind.u64.wrap (rd l0 a1))) else (none)) else (some 0)) = some r := h
 clear h
 by_cases c3 : a1 < (l0.length : Int)
 ·rw [if_pos c3] at H
  have c3b0 : decide (a1 < (l0.length : Int)) = true := decide_eq_true c3
  clear c3
  by_cases c4 : 0 ≤ a1
  ·rw [if_pos c4] at H
   have c4b0 : decide (0 ≤ a1) = true := decide_eq_true c4
   clear c4
   obtain rfl := Option.some.inj H
   have p155 : 0 ≤ (a1 : Int) := of_decide_eq_true (by first | (with_reducible assumption) | assumption)
   have q155 : a1 < (l0.length : Int) := of_decide_eq_true (by first | (with_reducible assumption) | assumption)
   obtain ⟨ad155, e155, hx155_0⟩ := Kd.at_int HR0.out a1 p155 q155
   cases e155
   replace p155 := eq_true p155
   replace q155 := eq_true q155
   go_enter Try.func93, Try.ntmps93
   go_wp2
   go_ret
   exact ⟨by first | rfl | (simp; done) | (simp [*]; done), by repeat (first | exact Drawn0.refl _ | apply Drawn0.step)⟩
  ·rw [if_neg c4] at H
   exact absurd H (by simp)
 ·rw [if_neg c3] at H
  have c3b0 : decide (a1 < (l0.length : Int)) = false := decide_eq_false c3
  clear c3
  obtain rfl := Option.some.inj H
  go_enter Try.func93, Try.ntmps93
  go_wp2
  go_ret
  exact ⟨by first | rfl | (simp; done) | (simp [*]; done), by repeat (first | exact Drawn0.refl _ | apply Drawn0.step)⟩

theorem nat_at.sem {l : List Int} (hW : Num.Ws l) (i : Nat) : nat_at.f l (i : Int) = some (l.getD i 0) := by
 have hg := hW.getD i
 unfold nat_at.f
 by_cases h : i < l.length
 ·rw [if_pos (by omega), if_pos (by omega)]
  have hr : rd l (i : Int) = l.getD i 0 := by simp [rd]
  have hu : IntKind.u64.wrap (l.getD i 0) = l.getD i 0 := by
   have : IntKind.u64.wrap (l.getD i 0) = l.getD i 0 % 18446744073709551616 := by simp [IntKind.wrap, IntKind.bits, IntKind.signed]
   rw [this]; omega
  rw [hr, hu]
 ·rw [if_neg (by omega), List.getD_eq_getElem?_getD, List.getElem?_eq_none (by omega)]
  rfl
def nat_Add.l0 : Nat → List Int → List Int → List Int → Int → Int → Int → Option (List Int)
 | 0, _, _, _, _, _, _ => none
 | k + 1, x0, x1, x5, x6, x16, x17 => if x17 < x16 then ((nat_at.f x0 x17).bind fun t270 => ((nat_at.f x1 x17).bind fun t271 => (if 0 ≤ x17 then (if x17 < (x5.length : Int) then (nat_Add.l0 k x0 x1 (x5.set (x17 : Int).toNat ((IntKind.u64.wrap (x6 + (IntKind.u64.wrap (t270 + t271)))) % 4294967296)) ((IntKind.u64.wrap (x6 + (IntKind.u64.wrap (t270 + t271)))) / 4294967296) x16 (wrap64 (x17 + 1))) else (none)) else (none)))) else ((nat_trim.f k x5).bind fun t273 => (some t273))
def nat_Add.f (k : Nat) (l0 : List Int) (l1 : List Int) : Option (List Int) := if 0 ≤ (wrap64 ((mx (l0.length : Int) (l1.length : Int)) + 1)) then (if (wrap64 ((mx (l0.length : Int) (l1.length : Int)) + 1) : Int).toNat ≤ 70368744177664 then ((some (List.replicate (wrap64 ((mx (l0.length : Int) (l1.length : Int)) + 1) : Int).toNat 0 : List Int)).bind fun y267 => (nat_Add.l0 k l0 l1 y267 0 (y267.length : Int) 0)) else (none)) else (none)
set_option maxHeartbeats 8000000 in
set_option maxRecDepth 100000 in
theorem nat_Add.calls (k : Nat) (A0 : Option Addr) (c0 : Nat) (l0 : List Int) (A1 : Option Addr) (c1 : Nat) (l1 : List Int) (r : List Int) (w : World) (hr0 : Kd.C (Kd.int .u32) w A0 l0.length l0) (hc0 : l0.length ≤ c0) (hr1 : Kd.C (Kd.int .u32) w A1 l1.length l1) (hc1 : l1.length ≤ c1) (h : nat_Add.f k l0 l1 = some r) :
  Calls Try.prog 75 #[.slice A0 l0.length c0, .slice A1 l1.length c1] w fun e w' => ∃ v0_ : Value, e = .returned (v0_) ∧ Kd.R (Kd.int .u32) 89 w' w.heap.size (fun _ => True) v0_ r ∧ Below w.heap.size w w' := by
 have HR0 := Aside0.mk hr0
 have HC0 := Aside0.mk hc0
 clear hr0 hc0
 have HR1 := Aside0.mk hr1
 have HC1 := Aside0.mk hc1
 clear hr1 hc1
 have HB := Aside0.mk (Below.refl w.heap.size w)
 have H : (if 0 ≤ (wrap64 ((mx (l0.length : Int) (l1.length : Int)) + 1)) then (if (wrap64 ((mx (l0.length : Int) (l1.length : Int)) + 1) : Int).toNat ≤ 70368744177664 then ((some (List.replicate (wrap64 ((mx (l0.length : Int) (l1.length : Int)) + 1) : Int).toNat 0 : List Int)).bind fun y267 => (nat_Add.l0 k l0 l1 y267 0 (y267.length : Int) 0)) else (none)) else (none)) = some r := h
 clear h
 obtain ⟨ji3, hji3⟩ : ∃ j_ : Int, (mx (l0.length : Int) (l1.length : Int)) = j_ := ⟨_, rfl⟩
 replace H : (if 0 ≤ (wrap64 ((ji3) + 1)) then (if (wrap64 ((ji3) + 1) : Int).toNat ≤ 70368744177664 then ((some (List.replicate (wrap64 ((ji3) + 1) : Int).toNat 0 : List Int)).bind fun y267 => (nat_Add.l0 k l0 l1 y267 0 (y267.length : Int) 0)) else (none)) else (none)) = some r := by first | (rw [hji3] at H; exact H) | (simp only [hji3] at H ⊢; exact H)
 (try (have hji3l : 0 ≤ ji3 := by (rw [← hji3]; unfold mx; (repeat' split) <;> omega)))
 (try (have hji3m : 0 ≤ ji3 := by omega))
 have hji3_ : (if (l0.length : Int) < (l1.length : Int) then (l1.length : Int) else (l0.length : Int)) = ji3 := hji3
 have hji3n : (if l0.length < l1.length then (l1.length : Int) else (l0.length : Int)) = ji3 := by rw [← hji3]; unfold mx; (repeat' split) <;> omega
 obtain ⟨ji4, hji4⟩ : ∃ j_ : Int, (wrap64 ((ji3) + 1)) = j_ := ⟨_, rfl⟩
 replace H : (if 0 ≤ (ji4) then (if (ji4 : Int).toNat ≤ 70368744177664 then ((some (List.replicate (ji4 : Int).toNat 0 : List Int)).bind fun y267 => (nat_Add.l0 k l0 l1 y267 0 (y267.length : Int) 0)) else (none)) else (none)) = some r := by first | (rw [hji4] at H; exact H) | (simp only [hji4] at H ⊢; exact H)
 have hji4w : (IntKind.i64.wrap ((ji3) + 1)) = ji4 := (i64_w _).trans hji4
 by_cases c5 : 0 ≤ (ji4)
 ·rw [if_pos c5] at H
  have c5b0 := eq_true c5
  have c5b1 : decide (0 ≤ (ji4)) = true := decide_eq_true c5
  clear c5
  by_cases c6 : (ji4 : Int).toNat ≤ 70368744177664
  ·rw [if_pos c6] at H
   have c6b0 := eq_true c6
   have c6b1 : decide ((ji4 : Int).toNat ≤ 70368744177664) = true := decide_eq_true c6
   clear c6
   obtain ⟨y267, hy267⟩ : ∃ y_ : List Int, y_ = (List.replicate (ji4 : Int).toNat 0) := ⟨_, rfl⟩
   replace H : (nat_Add.l0 k l0 l1 y267 0 (y267.length : Int) 0) = some r := by first | (rw [hy267]; with_reducible exact H) | (have H2_ := (Option.bind_some _ _).symm.trans H; rw [hy267]; with_reducible exact H2_) | (have H2_ := (Option.bind_some _ _).symm.trans H; with_reducible exact H2_) | with_reducible exact H | (rw [hy267]; exact H) | exact H
   have Ny267 := Aside0.mk hy267
   clear hy267
   have H' := Aside0.mk H
   clear H
   go_enter Try.func75, Try.ntmps75
   go_wp2_with (first | ((with_reducible refine gate_dst (N := 14) rfl ?_); refine Kd.R_make (Kd.int .u32) _ 89 rfl (N := 14) rfl 23 _ _ rfl ji4 rfl rfl Try.underlying23 (.int .u32 0) 4 info89 rfl (by decide) (by omega) 0 (ok := fun _ => True) (okp := fun _ => True) rfl (fun _ hk => hk) trivial (of_decide_eq_true (by first | (with_reducible assumption) | assumption)) (Nat.le_trans (Nat.mul_le_mul_right _ (of_decide_eq_true (by first | (with_reducible assumption) | assumption) : ji4.toNat ≤ 70368744177664)) (by omega)) (Below.refl _ _) (Nat.le_refl _) ?_; intro v268 w7 ho8 hb hg_ hnew_; clear hg_ hnew_; (first | rw [← Ny267.out] at ho8 | (simp only [Int.reduceToNat] at ho8; rw [← Ny267.out] at ho8)); have HO269 := Aside0.mk (Kd.R_lower ho8 (below_size (by repeat (first | (with_reducible first | exact HB.out | apply below_alloc | apply pw_below_drewN | apply below_drew1) | exact HB.out)))); replace HB := Aside0.mk (below_step (by repeat (first | (with_reducible first | exact HB.out | apply below_alloc | apply pw_below_drewN | apply below_drew1) | exact HB.out)) hb); clear hb ho8; obtain ⟨Ao9, co9, eo9⟩ := Kd.R_slice HO269.out; subst eo9))
   go_loopg [6, 17] k (fun kq v6 v17 w' => ∃ (x5_1 : List Int) (x6_1 : Int) (x17_1 : Int), v6 = .int .u64 x6_1 ∧ v17 = .int .i64 x17_1 ∧ Aside0 (nat_Add.l0 kq l0 l1 x5_1 x6_1 (y267.length : Int) x17_1 = some r) ∧ Aside0 (kq ≤ k) ∧ Aside0 (Kd.R (Kd.int .u32) 89 w' w.heap.size (fun _ => True) (.slice Ao9 y267.length co9) x5_1) ∧ Aside0 (Below w.heap.size w w'))
   case atStart => exact ⟨(y267), (0), (0), (by first | rfl | (simp; done) | (simp [*]; done)), (by first | rfl | (simp; done) | (simp [*]; done)), H', ⟨Nat.le_refl _⟩, ⟨by (with_reducible repeat (first | apply Kd.R_alloc | apply Kd.R_drewN | apply Kd.R_drew)); exact HO269.out⟩, ⟨by repeat (first | (with_reducible first | exact HB.out | apply below_alloc | apply pw_below_drewN | apply below_drew1) | exact HB.out)⟩⟩
   case round =>
    clear H'
    try clear c1
    try clear p2
    try clear c5
    try clear c5b0
    try clear c5b1
    try clear c6
    try clear c6b0
    try clear c6b1
    try clear p6
    try clear c7
    obtain ⟨x5_1, x6_1, x17_1, rfl, rfl, HA, HK1, HO_5, HB⟩ := hrel
    have hl5_1 := (Kd.R_reads' HO_5.out).1
    rw [hl5_1] at HO_5
    (try simp only [hl5_1])
    cases gk with
    | zero => exact absurd HA.out (by simp [nat_Add.l0])
    | succ k1 =>
     have H := HA.out
     clear HA
     simp only [nat_Add.l0] at H
     by_cases c10 : x17_1 < (y267.length : Int)
     ·rw [if_pos c10] at H
      have c10b0 : decide (x17_1 < (y267.length : Int)) = true := decide_eq_true c10
      (try (have c10z0 : decide (x17_1 < (x5_1.length : Int)) = true := by rw [← hl5_1]; exact c10b0))
      clear c10
      replace H := Option.bind_eq_some_iff.mp H
      obtain ⟨t270, A110, H⟩ := H
      try dsimp only at H
      have A11 := Aside0.mk A110
      clear A110
      replace H := Option.bind_eq_some_iff.mp H
      obtain ⟨t271, A120, H⟩ := H
      try dsimp only at H
      have A12 := Aside0.mk A120
      clear A120
      by_cases c13 : 0 ≤ x17_1
      ·rw [if_pos c13] at H
       have c13b0 : decide (0 ≤ x17_1) = true := decide_eq_true c13
       clear c13
       by_cases c14 : x17_1 < (x5_1.length : Int)
       ·rw [if_pos c14] at H
        have c14b0 : decide (x17_1 < (x5_1.length : Int)) = true := decide_eq_true c14
        clear c14
        obtain ⟨y272, hy272⟩ : ∃ y_ : List Int, y_ = (x5_1.set (x17_1 : Int).toNat ((IntKind.u64.wrap (x6_1 + (IntKind.u64.wrap (t270 + t271)))) % 4294967296)) := ⟨_, rfl⟩
        replace H : (nat_Add.l0 k1 l0 l1 y272 ((IntKind.u64.wrap (x6_1 + (IntKind.u64.wrap (t270 + t271)))) / 4294967296) (y267.length : Int) (wrap64 (x17_1 + 1))) = some r := by first | (rw [hy272]; with_reducible exact H) | (have H2_ := (Option.bind_some _ _).symm.trans H; rw [hy272]; with_reducible exact H2_) | (have H2_ := (Option.bind_some _ _).symm.trans H; with_reducible exact H2_) | with_reducible exact H | (rw [hy272]; exact H) | exact H
        have Ny272 := Aside0.mk hy272
        clear hy272
        have H' := Aside0.mk H
        clear H
        go_wp2_with (first | ((with_reducible refine gate_callee (f := 93) rfl ?_); refine Short.goesS_ (some 23) Try.func93 #[.slice A0 l0.length c0, .int .i64 x17_1] ?_; (with_reducible refine (nat_at.calls _ _ l0 x17_1 t270 _ (Kd.C_below HR0.out HB.out) HC0.out A11.out).mono ?_); rintro e w' ⟨rfl, ⟨nd, rfl⟩⟩; refine ⟨_, rfl, ?_⟩; (try (rw [drewN_self wr]; generalize hq_ : World.drewN wr _ = wr; have n0_ : Aside0 (Kd.R (Kd.int .u32) 89 wr w.heap.size (fun _ => True) (.slice Ao9 x5_1.length co9) x5_1) := ⟨by rw [← hq_]; exact HO_5.out⟩; have n1_ : Aside0 (Below w.heap.size w wr) := ⟨by rw [← hq_]; exact (by repeat (first | (with_reducible first | exact HB.out | apply below_alloc | apply pw_below_drewN | apply below_drew1) | exact HB.out))⟩; clear HO_5 HB hq_; have HO_5 := n0_; have HB := n1_; clear n0_ n1_))) | ((with_reducible refine gate_callee (f := 93) rfl ?_); refine Short.goesS_ (some 26) Try.func93 #[.slice A1 l1.length c1, .int .i64 x17_1] ?_; (with_reducible refine (nat_at.calls _ _ l1 x17_1 t271 _ (Kd.C_below HR1.out HB.out) HC1.out A12.out).mono ?_); rintro e w' ⟨rfl, ⟨nd, rfl⟩⟩; refine ⟨_, rfl, ?_⟩; (try (rw [drewN_self wr]; generalize hq_ : World.drewN wr _ = wr; have n0_ : Aside0 (Kd.R (Kd.int .u32) 89 wr w.heap.size (fun _ => True) (.slice Ao9 x5_1.length co9) x5_1) := ⟨by rw [← hq_]; exact HO_5.out⟩; have n1_ : Aside0 (Below w.heap.size w wr) := ⟨by rw [← hq_]; exact (by repeat (first | (with_reducible first | exact HB.out | apply below_alloc | apply pw_below_drewN | apply below_drew1) | exact HB.out))⟩; clear HO_5 HB hq_; have HO_5 := n0_; have HB := n1_; clear n0_ n1_)); have p15 : 0 ≤ (x17_1 : Int) := of_decide_eq_true (by first | (with_reducible assumption) | assumption); have q15 : (x17_1 : Int) < ((x5_1.length : Int) : Int) := of_decide_eq_true (by first | (with_reducible assumption) | assumption); obtain ⟨go15, co15, eo15, gb15, gl15, cl15, HG15⟩ := Kd.R_form HO_5.out (by omega); (first | cases eo15 | (injection eo15 with ea_ en_ ec_; (first | subst ea_ | (injection ea_ with ea_; subst ea_)); subst ec_; clear en_)); have GB15 := Aside0.mk gb15; have GG15 := Aside0.mk HG15; clear gb15 gl15 HG15; obtain ⟨hx15_0, hf15_0⟩ := Kd.R_celln 0 HO_5.out (x17_1 : Int) p15 q15; replace p15 := eq_true p15; replace q15 := eq_true q15; obtain ⟨hy16_, hz16_⟩ := Kd.R_celln 0 HO_5.out (x17_1 : Int) (of_decide_eq_true (by first | (with_reducible assumption) | assumption)) (of_decide_eq_true (by first | (with_reducible assumption) | assumption)); have HP16 := Kd.R_putg HO_5.out (x17_1 : Int) ((IntKind.u64.wrap (x6_1 + (IntKind.u64.wrap (t270 + t271)))) % 4294967296)) | ((with_reducible refine gate_store (t := 89) (p := 33) rfl ?_); refine store_event (t := 89) (p := 33) (v := ?vo_w17) (w1 := (wr.setCell ⟨go15, (x17_1 : Int).toNat, none⟩ (.int .u32 ((IntKind.u64.wrap (x6_1 + (IntKind.u64.wrap (t270 + t271)))) % 4294967296)))) ?hg ?ho ?hn ?hr ?_; (case ho => rfl); (case hg => rfl); (case hn => rfl); (case hr => first | (go_simp; done) | (go_simp; rfl)); intro w17 hw; have hg : wr.grownBy w17 (some go15) := (by rw [hw]; exact HP16.2); have hp_ : Kd.R (Kd.int .u32) 89 w17 w.heap.size (fun _ => True) (.slice (some ⟨go15, 0, none⟩) x5_1.length co9) y272 := (by rw [hw, Ny272.out]; exact HP16.1); clear HP16; replace HO_5 := Aside0.mk (hp_); replace HB := Aside0.mk ((by rw [hw]; exact below_set (HB.out) GB15.out : Below w.heap.size w w17)); clear hg hw hp_))
        (try simp only [← hl5_1])
        go_roundg k1
        case measure => have := HK1.out; omega
        case rel => exact ⟨(y272), ((IntKind.u64.wrap (x6_1 + (IntKind.u64.wrap (t270 + t271)))) / 4294967296), (wrap64 (x17_1 + 1)), (by first | rfl | (simp; done) | (simp [*]; done)), (by first | rfl | (simp; done) | (simp [*]; done)), H', ⟨by have := HK1.out; omega⟩, ⟨by (try simp only [hl5_1]); (with_reducible repeat (first | apply Kd.R_alloc | apply Kd.R_drewN | apply Kd.R_drew)); exact HO_5.out⟩, ⟨by repeat (first | (with_reducible first | exact HB.out | apply below_alloc | apply pw_below_drewN | apply below_drew1) | exact HB.out)⟩⟩
       ·rw [if_neg c14] at H
        exact absurd H (by simp)
      ·rw [if_neg c13] at H
       exact absurd H (by simp)
     ·rw [if_neg c10] at H
      have c10b0 : decide (x17_1 < (y267.length : Int)) = false := decide_eq_false c10
      (try (have c10z0 : decide (x17_1 < (x5_1.length : Int)) = false := by rw [← hl5_1]; exact c10b0))
      clear c10
      replace H := Option.bind_eq_some_iff.mp H
      obtain ⟨t273, A180, H⟩ := H
      replace H : (some t273) = some r := H
      have A18 := Aside0.mk A180
      clear A180
      obtain rfl := Option.some.inj H
      go_wp2_with (first | ((with_reducible refine gate_callee (f := 71) rfl ?_); refine Short.goesS_ (some 38) Try.func71 #[.slice Ao9 x5_1.length co9] ?_; (with_reducible refine (nat_trim.calls k1 _ _ x5_1 t273 _ ((Kd.R_reads' HO_5.out).2.2) ((Kd.R_reads' HO_5.out).2.1) A18.out).mono ?_); rintro e w19 ⟨v274, rfl, ho0, hb⟩; refine ⟨_, rfl, ?_⟩; have HO275 := Aside0.mk (Kd.R_lower (Kd.R_new' ho0 (Kd.R_lt HO_5.out)) (below_size (by repeat (first | (with_reducible first | exact HB.out | apply below_alloc | apply pw_below_drewN | apply below_drew1) | exact HB.out)))); replace HO_5 := Aside0.mk (Kd.R_elder' HO_5.out (Kd.R_base ho0) hb); replace HB := Aside0.mk (below_step (by repeat (first | (with_reducible first | exact HB.out | apply below_alloc | apply pw_below_drewN | apply below_drew1) | exact HB.out)) hb); (try clear hb); (try clear ho0)))
      go_ret
      exact ⟨_, by first | rfl | (simp [errW_none, errW_some] <;> rfl) | (simp only [← hji3, ← hji4]; first | rfl | (simp [errW_none, errW_some] <;> rfl)) | (simp [*, errW_none, errW_some] <;> rfl), by (with_reducible repeat (first | apply Kd.R_alloc | apply Kd.R_drewN | apply Kd.R_drew)); exact Kd.R_mono HO275.out (fun _ hk => trivial), by repeat (first | (with_reducible first | exact HB.out | apply below_alloc | apply pw_below_drewN | apply below_drew1) | exact HB.out)⟩
  ·rw [if_neg c6] at H
   exact absurd H (by simp)
 ·rw [if_neg c5] at H
  exact absurd H (by simp)

theorem nat_Add.ev_l {a b : List Int} (ha : Num.Ws a) (hb : Num.Ws b) {L : Nat} (hLa : a.length < L) (hLb : b.length < L) (hL : L < 35184372088832) (d : Nat) : ∀ (i : Nat) (x : List Int) (c : Nat), i + d = L → x.length = L → Num.Ws x → c ≤ 1 →
  Num.nv (x.take i) + 2 ^ (32 * i) * c = Num.nv (a.take i) + Num.nv (b.take i) → Ev (fun k => nat_Add.l0 k a b x (c : Int) (L : Int) (i : Int)) (Num.nd (Num.nv a + Num.nv b)) := by
 induction d with
 | zero =>
  intro i x c hi hx hW hc hv
  obtain rfl : i = L := by omega
  rw [List.take_of_length_le (by omega), List.take_of_length_le (by omega), List.take_of_length_le (by omega)] at hv
  have hva := Num.nv_lt ha
  have hvb := Num.nv_lt hb
  have hP : 2 ^ (32 * a.length) * 2 ≤ 2 ^ (32 * i) := by
   rw [← Nat.pow_succ]
   exact Nat.pow_le_pow_right (by omega) (by omega)
  have hQ : 2 ^ (32 * b.length) * 2 ≤ 2 ^ (32 * i) := by
   rw [← Nat.pow_succ]
   exact Nat.pow_le_pow_right (by omega) (by omega)
  obtain rfl : c = 0 := by
   rcases Nat.eq_zero_or_pos c with h | h
   ·exact h
   ·obtain rfl : c = 1 := by omega
    omega
  have hv2 : Num.nv x = Num.nv a + Num.nv b := by omega
  refine Ev.step (f := fun k => (nat_trim.f k x).bind fun t => some t) (fun k => ?_) ?_
  ·simp only [nat_Add.l0]
   rw [if_neg (by omega)]
  ·rw [← hv2]
   exact Ev.bind (nat_trim.ev hW (by omega)) (Ev.now _)
 | succ d ih =>
  intro i x c hi hx hW hc hv
  have hga := ha.getD i
  have hgb := hb.getD i
  obtain ⟨p, hp⟩ : ∃ p : Nat, (p : Int) = a.getD i 0 := ⟨(a.getD i 0).toNat, by omega⟩
  obtain ⟨q, hq⟩ : ∃ q : Nat, (q : Int) = b.getD i 0 := ⟨(b.getD i 0).toNat, by omega⟩
  have c1 : (i : Int) < (L : Int) := by omega
  have c2 : 0 ≤ (i : Int) := by omega
  have c3 : (i : Int) < (x.length : Int) := by omega
  refine Ev.step (f := fun k => nat_Add.l0 k a b (x.set i (((c + p + q) % 4294967296 : Nat) : Int)) (((c + p + q) / 4294967296 : Nat) : Int) (L : Int) ((i + 1 : Nat) : Int)) (fun k => ?_) ?_
  ·have e1 : IntKind.u64.wrap ((p : Int) + (q : Int)) = (p : Int) + (q : Int) := nat_trim.u64w (by omega) (by omega)
   have e2 : IntKind.u64.wrap ((c : Int) + ((p : Int) + (q : Int))) = ((c + p + q : Nat) : Int) := by rw [nat_trim.u64w (by omega) (by omega)]; omega
   have e3 : ((c + p + q : Nat) : Int) % 4294967296 = (((c + p + q) % 4294967296 : Nat) : Int) := by omega
   have e4 : ((c + p + q : Nat) : Int) / 4294967296 = (((c + p + q) / 4294967296 : Nat) : Int) := by omega
   have e5 : wrap64 ((i : Int) + 1) = ((i + 1 : Nat) : Int) := by rw [nat_trim.w64 (by omega) (by omega)]; omega
   simp only [nat_Add.l0]
   rw [if_pos c1, nat_at.sem ha, nat_at.sem hb]
   simp only [Option.bind_some]
   rw [if_pos c2, if_pos c3, ← hp, ← hq, e1, e2, e3, e4, e5]
   simp only [Int.toNat_natCast]
  ·refine ih (i + 1) _ _ (by omega) (by rw [List.length_set]; exact hx) (hW.set i (by omega) (by omega)) (by omega) ?_
   rw [Num.nv_set_take (by omega), Num.nv_take_succ, Num.nv_take_succ, Num.pow_succ32, Int.toNat_natCast, ← hp, ← hq, Int.toNat_natCast, Int.toNat_natCast]
   have := Num.split_mul (2 ^ (32 * i)) (c + p + q)
   have h2 : 2 ^ (32 * i) * (c + p + q) = 2 ^ (32 * i) * c + 2 ^ (32 * i) * p + 2 ^ (32 * i) * q := by rw [Nat.mul_add, Nat.mul_add]
   omega
theorem nat_Add.ev {a b : List Int} (ha : Num.okw a = true) (hb : Num.okw b = true) : Ev (fun k => nat_Add.f k a b) (Num.nd (Num.nv a + Num.nv b)) := by
 obtain ⟨la, wa⟩ := (Num.okw_iff a).1 ha
 obtain ⟨lb, wb⟩ := (Num.okw_iff b).1 hb
 obtain ⟨L, hL⟩ : ∃ L : Nat, wrap64 (mx (a.length : Int) (b.length : Int) + 1) = (L : Int) ∧ a.length < L ∧ b.length < L ∧ L ≤ 1099511627776 := by
  refine ⟨max a.length b.length + 1, ?_, by omega, by omega, by omega⟩
  rw [nat_trim.w64 (by unfold mx; split <;> omega) (by unfold mx; split <;> omega)]
  unfold mx
  split <;> omega
 obtain ⟨hL, h1, h2, h3⟩ := hL
 have := nat_Add.ev_l wa wb h1 h2 (by omega) L 0 (List.replicate L 0) 0 (by omega) (by simp) (Num.Ws.replicate _) (by omega) (by simp [Num.nv])
 unfold nat_Add.f
 rw [hL]
 refine Ev.congr (fun k => ?_) this
 rw [if_pos (show (0 : Int) ≤ (L : Int) from by omega), Int.toNat_natCast, if_pos (show L ≤ 70368744177664 from by omega)]
 simp only [Option.bind_some, List.length_replicate]
 rfl
set_option synthInstance.checkSynthOrder false in
open Lin in
instance nat_Add.t {k : Nat} {l0 : List Int} {l1 : List Int} {r : List Int} [h : Ans (nat_Add.f k l0 l1) r] : Tl Try.prog 75 [.one (.row l0), .one (.row l1)] (.el (.one (.row r))) := ⟨Tells.of Try.func75 fun out w vs ho hl hv => by
 obtain ⟨u0, u1, rfl, h0, h1⟩ := args2 hl hv
 obtain ⟨A0, c0, rfl, hc0, hr0, hb0⟩ := h0
 obtain ⟨A1, c1, rfl, hc1, hr1, hb1⟩ := h1
 refine (nat_Add.calls k A0 c0 l0 A1 c1 l1 _ w hr0 hc0 hr1 hc1 h.out).mono ?_
 rintro e w' ⟨v0_, rfl, gv0_, hb⟩
 exact ⟨_, rfl, row_R gv0_ ho, hb⟩⟩
def nat_Parse_cl1.f (a0 : Int) : Option (Bool) := if a0 ≥ 48 then (some (decide (a0 ≤ 57))) else (some false)
set_option maxHeartbeats 8000000 in
set_option maxRecDepth 100000 in
theorem nat_Parse_cl1.calls (a0 : Int) (r : Bool) (w : World) (h : nat_Parse_cl1.f a0 = some r) :
  Calls Try.prog 74 #[.int .u8 a0] w fun e w' => e = .returned (.bool r) ∧ Drawn0 w w' := by
 have H : (if a0 ≥ 48 then (some (decide (a0 ≤ 57))) else (some false)) = some r := h
 clear h
 by_cases c2 : a0 ≥ 48
 ·rw [if_pos c2] at H
  have c2b0 : decide (48 ≤ a0) = true := decide_eq_true c2
  clear c2
  obtain rfl := Option.some.inj H
  go_enter Try.func74, Try.ntmps74
  go_wp2
  go_ret
  exact ⟨by first | rfl | (simp; done) | (simp [*]; done), by repeat (first | exact Drawn0.refl _ | apply Drawn0.step)⟩
 ·rw [if_neg c2] at H
  have c2b0 : decide (48 ≤ a0) = false := decide_eq_false c2
  clear c2
  obtain rfl := Option.some.inj H
  go_enter Try.func74, Try.ntmps74
  go_wp2
  go_ret
  exact ⟨by first | rfl | (simp; done) | (simp [*]; done), by repeat (first | exact Drawn0.refl _ | apply Drawn0.step)⟩
theorem u8_w (n : Int) : IntKind.u8.wrap n = n % 256 := by simp [IntKind.wrap, IntKind.bits, IntKind.signed]
theorem u64_u8 (n : Int) : IntKind.u64.wrap (n % 256) = n % 256 := by simp [IntKind.wrap, IntKind.bits, IntKind.signed]; omega

def nat_Parse.l0 : Nat → ByteArray → List Int → Int → Int → Option (List Int × Int)
 | 0, _, _, _, _ => none
 | k + 1, x0, x5, x8, x9 => if x9 < x8 then (if 0 ≤ x9 then (if x9 < (x0.size : Int) then ((nat_Parse_cl1.f (bt x0 x9)).bind fun t1150 => (if t1150 = true then (if x9 < 400 then ((nat_Of.f k 10).bind fun t1151 => ((nat_Mul.f k x5 t1151).bind fun t1154 => ((nat_Of.f k (((bt x0 x9) - 48) % 256)).bind fun t1157 => ((nat_Add.f k t1154 t1157).bind fun t1160 => (nat_Parse.l0 k x0 t1160 x8 (wrap64 (x9 + 1))))))) else (nat_Parse.l0 k x0 x5 x8 (wrap64 (x9 + 1)))) else (some (([] : List Int), 2)))) else (none)) else (none)) else (if x0.toList = ([] : List UInt8) then (some (([] : List Int), 2)) else (if (x0.size : Int) > 400 then (some (([] : List Int), 4)) else (some (x5, 0))))
def nat_Parse.f (k : Nat) (a0 : ByteArray) : Option (List Int × Int) := nat_Parse.l0 k a0 ([] : List Int) (a0.size : Int) 0
def nat_Parse.T9 : Bool × List (List Nat × List Nat) := (true, [([], []), ([], []), ([0, 1, 1], [0, 1]), ([], []), ([], []), ([3, 4], [3, 4]), ([5], [5]), ([6], [6]), ([7, 2], [7]), ([2, 8, 8], [2, 8]), ([9, 9, 0, 1, 2, 3, 4, 5, 6, 7, 8, 9], [0, 9])])
def nat_Parse.B9 : List Nat := [0, 0, 3, 0, 0, 24, 56, 120, 255, 511, 1023]
theorem nat_Parse.tab9 : rtab .any (opsOf Try.f42 9) = nat_Parse.T9 := by kernel_rfl
theorem nat_Parse.bits9 : waitsOk nat_Parse.T9.2 nat_Parse.B9 = true := by kernel_rfl
set_option maxHeartbeats 8000000 in
set_option maxRecDepth 100000 in
theorem nat_Parse.calls (k : Nat) (a0 : ByteArray) (r1 : List Int) (r2 : Int) (w : World) (h : nat_Parse.f k a0 = some (r1, r2)) :
  Calls Try.prog 42 #[.string a0] w fun e w' => ∃ v0_ : Value, e = .returned (.tuple #[v0_, .int .i64 r2]) ∧ Kd.R (Kd.int .u32) 89 w' w.heap.size (fun _ => True) v0_ r1 ∧ Below w.heap.size w w' := by
 have HB := Aside0.mk (Below.refl w.heap.size w)
 have H : (nat_Parse.l0 k a0 ([] : List Int) (a0.size : Int) 0) = some (r1, r2) := h
 clear h
 have H' := Aside0.mk H
 clear H
 go_enter Try.func42, Try.ntmps42
 go_wp2
 go_loopg [5, 9] k (fun kq v5 v9 w' => ∃ (x5_1 : List Int) (x9_1 : Int), v9 = .int .i64 x9_1 ∧ Aside0 (nat_Parse.l0 kq a0 x5_1 (a0.size : Int) x9_1 = some (r1, r2)) ∧ Aside0 (kq ≤ k) ∧ Aside0 (Kd.R (Kd.int .u32) 89 w' w.heap.size (fun _ => True) v5 x5_1) ∧ Aside0 (Below w.heap.size w w'))
 case atStart => exact ⟨(([] : List Int)), (0), (by first | rfl | (simp; done) | (simp [*]; done)), H', ⟨Nat.le_refl _⟩, ⟨by first | exact Kd.R_nil _ _ _ _ _ | exact Kd.N_nil _ _ _ _ _ | exact Kd.V_nil _ _ _ _ _ | exact Kd.Q_nil _ _ _ _ _ | exact Kd.S_nil _ _ _ _ _⟩, ⟨by repeat (first | (with_reducible first | exact HB.out | apply below_alloc | apply pw_below_drewN | apply below_drew1) | exact HB.out)⟩⟩
 case round =>
  clear H'
  obtain ⟨x5_1, x9_1, rfl, HA, HK1, HO_5, HB⟩ := hrel
  cases gk with
  | zero => exact absurd HA.out (by simp [nat_Parse.l0])
  | succ k1 =>
   have H := HA.out
   clear HA
   simp only [nat_Parse.l0] at H
   by_cases c2 : x9_1 < (a0.size : Int)
   ·rw [if_pos c2] at H
    have c2b0 : decide (x9_1 < (a0.size : Int)) = true := decide_eq_true c2
    clear c2
    by_cases c3 : 0 ≤ x9_1
    ·rw [if_pos c3] at H
     have c3b0 : decide (0 ≤ x9_1) = true := decide_eq_true c3
     clear c3
     by_cases c4 : x9_1 < (a0.size : Int)
     ·rw [if_pos c4] at H
      have c4b0 : decide (x9_1 < (a0.size : Int)) = true := decide_eq_true c4
      clear c4
      replace H := Option.bind_eq_some_iff.mp H
      obtain ⟨t1150, A60, H⟩ := H
      replace H : (if t1150 = true then (if x9_1 < 400 then ((nat_Of.f k1 10).bind fun t1151 => ((nat_Mul.f k1 x5_1 t1151).bind fun t1154 => ((nat_Of.f k1 (((bt a0 x9_1) - 48) % 256)).bind fun t1157 => ((nat_Add.f k1 t1154 t1157).bind fun t1160 => (nat_Parse.l0 k1 a0 t1160 (a0.size : Int) (wrap64 (x9_1 + 1))))))) else (nat_Parse.l0 k1 a0 x5_1 (a0.size : Int) (wrap64 (x9_1 + 1)))) else (some (([] : List Int), 2))) = some (r1, r2) := H
      have A6 := Aside0.mk A60
      clear A60
      by_cases c7 : t1150 = true
      ·subst c7
       have H1 : (if x9_1 < 400 then ((nat_Of.f k1 10).bind fun t1151 => ((nat_Mul.f k1 x5_1 t1151).bind fun t1154 => ((nat_Of.f k1 (((bt a0 x9_1) - 48) % 256)).bind fun t1157 => ((nat_Add.f k1 t1154 t1157).bind fun t1160 => (nat_Parse.l0 k1 a0 t1160 (a0.size : Int) (wrap64 (x9_1 + 1))))))) else (nat_Parse.l0 k1 a0 x5_1 (a0.size : Int) (wrap64 (x9_1 + 1)))) = some (r1, r2) := by rw [if_pos rfl] at H; exact H
       clear H
       have H := H1
       clear H1
       by_cases c8 : x9_1 < 400
       ·rw [if_pos c8] at H
        have c8b0 : decide (x9_1 < 400) = true := decide_eq_true c8
        clear c8
        replace H := Option.bind_eq_some_iff.mp H
        obtain ⟨t1151, A90, H⟩ := H
        replace H : ((nat_Mul.f k1 x5_1 t1151).bind fun t1154 => ((nat_Of.f k1 (((bt a0 x9_1) - 48) % 256)).bind fun t1157 => ((nat_Add.f k1 t1154 t1157).bind fun t1160 => (nat_Parse.l0 k1 a0 t1160 (a0.size : Int) (wrap64 (x9_1 + 1)))))) = some (r1, r2) := H
        have A9 := Aside0.mk A90
        clear A90
        replace H := Option.bind_eq_some_iff.mp H
        obtain ⟨t1154, A100, H⟩ := H
        replace H : ((nat_Of.f k1 (((bt a0 x9_1) - 48) % 256)).bind fun t1157 => ((nat_Add.f k1 t1154 t1157).bind fun t1160 => (nat_Parse.l0 k1 a0 t1160 (a0.size : Int) (wrap64 (x9_1 + 1))))) = some (r1, r2) := H
        have A10 := Aside0.mk A100
        clear A100
        replace H := Option.bind_eq_some_iff.mp H
        obtain ⟨t1157, A120, H⟩ := H
        replace H : ((nat_Add.f k1 t1154 t1157).bind fun t1160 => (nat_Parse.l0 k1 a0 t1160 (a0.size : Int) (wrap64 (x9_1 + 1)))) = some (r1, r2) := H
        have A12 := Aside0.mk A120
        clear A120
        replace H := Option.bind_eq_some_iff.mp H
        obtain ⟨t1160, A130, H⟩ := H
        replace H : (nat_Parse.l0 k1 a0 t1160 (a0.size : Int) (wrap64 (x9_1 + 1))) = some (r1, r2) := H
        have A13 := Aside0.mk A130
        clear A130
        have H' := Aside0.mk H
        clear H
        have p5 : 0 ≤ (x9_1 : Int) := of_decide_eq_true (by first | (with_reducible assumption) | assumption)
        have q5 : x9_1 < (a0.size : Int) := of_decide_eq_true (by first | (with_reducible assumption) | assumption)
        have hx5 := bt_at a0 x9_1
        replace p5 := eq_true p5
        replace q5 := eq_true q5
        try go_wp2_with (first | (go_at_call 74; (with_reducible refine (nat_Parse_cl1.calls (bt a0 x9_1) true _ A6.out).mono ?_); rintro e w' ⟨rfl, ⟨nd, rfl⟩⟩))
        (try (rw [drewN_self wr]; generalize hq_ : World.drewN wr _ = wr; have n0_ : Aside0 (Kd.R (Kd.int .u32) 89 wr w.heap.size (fun _ => True) u5 x5_1) := ⟨by rw [← hq_]; exact (by (with_reducible repeat (first | apply Kd.R_alloc | apply Kd.R_drewN | apply Kd.R_drew)); exact HO_5.out)⟩; have n1_ : Aside0 (Below w.heap.size w wr) := ⟨by rw [← hq_]; exact (by repeat (first | (with_reducible first | exact HB.out | apply below_alloc | apply pw_below_drewN | apply below_drew1) | exact HB.out))⟩; clear HO_5 HB hq_; have HO_5 := n0_; have HB := n1_; clear n0_ n1_))
        replace HO_5 := Aside0.mk (Kd.R_drew HO_5.out)
        replace HB := Aside0.mk (below_drew1 HB.out)
        have p11 : 0 ≤ (x9_1 : Int) := of_decide_eq_true (by first | (with_reducible assumption) | assumption)
        have q11 : x9_1 < (a0.size : Int) := of_decide_eq_true (by first | (with_reducible assumption) | assumption)
        have hx11 := bt_at a0 x9_1
        replace p11 := eq_true p11
        replace q11 := eq_true q11
        refine start_ (n := 11) (S := fun w' => True) (ds := []) #[false, false, false, false, false, false, false, false, false, false, false] (by kernel_rfl) rfl rfl trivial (fun hHeld => ?_); refine with_tabW nat_Parse.tab9 nat_Parse.bits9 (fun HT_ HW_ => ?_)
        generalize wr.drew = w14 at HO_5 HB hHeld ⊢
        refine pure_ (i := 0) (N := some 20) (v := ?_) (a' := ?_) #[true, false, false, false, false, false, false, false, false, false, false] rfl rfl (any_of HT_.out (by kernel_rfl)) (fun _ _ _ h => h) (Or.inl ⟨by rfl, ?_⟩) ?_ ?_
        rotate_left
        ·intro w'
         go_simp
         with_reducible rfl
        rotate_left
        ·simp only [Act.put, List.setIfInBounds_toArray, List.set_cons_zero, List.set_cons_succ, i64_w, i32_w, u8_w, u64_u8]
         rfl
        refine pure_ (i := 3) (N := some 23) (v := ?_) (a' := ?_) #[true, false, false, true, false, false, false, false, false, false, false] rfl rfl (any_of HT_.out (by kernel_rfl)) (fun _ _ _ h => h) (Or.inl ⟨by rfl, ?_⟩) ?_ ?_
        rotate_left
        ·intro w'
         go_simp
         with_reducible rfl
        rotate_left
        ·simp only [Act.put, List.setIfInBounds_toArray, List.set_cons_zero, List.set_cons_succ, i64_w, i32_w, u8_w, u64_u8]
         rfl
        refine pure_ (i := 4) (N := some 24) (v := ?_) (a' := ?_) #[true, false, false, true, true, false, false, false, false, false, false] rfl rfl (any_of HT_.out (by kernel_rfl)) (fun _ _ _ h => h) (Or.inl ⟨by rfl, ?_⟩) ?_ ?_
        rotate_left
        ·intro w'
         go_simp
         with_reducible rfl
        rotate_left
        ·simp only [Act.put, List.setIfInBounds_toArray, List.set_cons_zero, List.set_cons_succ, i64_w, i32_w, u8_w, u64_u8]
         rfl
        refine take_ (i := 5) (N := some 25) (v := ?_) (a' := ?_) #[true, false, false, true, true, true, false, false, false, false, false] rfl rfl (take_ofW HT_.out HW_.out (by kernel_rfl)) (fun _ _ _ h => h) (Or.inl ⟨by rfl, ?_⟩) hHeld ?_ ?_
        rotate_left
        ·intro w' _
         go_simp
         with_reducible rfl
        rotate_left
        ·simp only [Act.put, List.setIfInBounds_toArray, List.set_cons_zero, List.set_cons_succ, i64_w, i32_w, u8_w, u64_u8]
         rfl
        refine pure_ (i := 6) (N := some 26) (v := ?_) (a' := ?_) #[true, false, false, true, true, true, true, false, false, false, false] rfl rfl (any_of HT_.out (by kernel_rfl)) (fun _ _ _ h => h) (Or.inl ⟨by rfl, ?_⟩) ?_ ?_
        rotate_left
        ·intro w'
         go_simp
         with_reducible rfl
        rotate_left
        ·simp only [Act.put, List.setIfInBounds_toArray, List.set_cons_zero, List.set_cons_succ, i64_w, i32_w, u8_w, u64_u8]
         rfl
        refine pure_ (i := 7) (N := some 27) (v := ?_) (a' := ?_) #[true, false, false, true, true, true, true, true, false, false, false] rfl rfl (any_of HT_.out (by kernel_rfl)) (fun _ _ _ h => h) (Or.inl ⟨by rfl, ?_⟩) ?_ ?_
        rotate_left
        ·intro w'
         go_simp
         with_reducible rfl
        rotate_left
        ·simp only [Act.put, List.setIfInBounds_toArray, List.set_cons_zero, List.set_cons_succ, i64_w, i32_w, u8_w, u64_u8]
         rfl
        refine one_ (i := 1) (N := some 21) #[true, true, false, true, true, true, true, true, false, false, false] rfl rfl (one_of HT_.out (by kernel_rfl)) (by decide) (fun K hK => ?_)
        refine goes_ Try.func37 (by kernel_rfl) rfl #[.int .u64 10] (by rfl) rfl rfl (by (try simp only [List.map_toArray, List.map_cons, List.map_nil]); first | done | rfl | (simp only [List.length_drop, List.length_take]; rfl)) ?_
        with_reducible refine (nat_Of.calls k1 10 t1151 _ A9.out).mono ?_
        rintro e w15 ⟨v1152, rfl, ho0, hb⟩
        refine ⟨_, rfl, ?_⟩
        have HO1153 := Aside0.mk (Kd.R_lower (Kd.R_new' ho0 (Kd.R_lt (by (with_reducible repeat (first | apply Kd.R_alloc | apply Kd.R_drewN | apply Kd.R_drew)); exact HO_5.out))) (below_size (by repeat (first | (with_reducible first | exact HB.out | apply below_alloc | apply pw_below_drewN | apply below_drew1) | exact HB.out))))
        replace HO_5 := Aside0.mk (Kd.R_elder' (by (with_reducible repeat (first | apply Kd.R_alloc | apply Kd.R_drewN | apply Kd.R_drew)); exact HO_5.out) (Kd.R_base ho0) hb)
        replace HB := Aside0.mk (below_step (by repeat (first | (with_reducible first | exact HB.out | apply below_alloc | apply pw_below_drewN | apply below_drew1) | exact HB.out)) hb)
        (try clear hb)
        (try clear ho0)
        obtain ⟨Ao16, co16, eo16⟩ := Kd.R_slice HO_5.out
        (first | subst eo16 | (injection eo16 with f1_ f2_ f3_; have f4_ := f1_.symm; have f5_ := f3_.symm; clear f1_ f2_ f3_; subst f4_; subst f5_))
        obtain ⟨Ao17, co17, eo17⟩ := Kd.R_slice HO1153.out
        (first | subst eo17 | (injection eo17 with f1_ f2_ f3_; have f4_ := f1_.symm; have f5_ := f3_.symm; clear f1_ f2_ f3_; subst f4_; subst f5_))
        refine hK.out _ _ trivial (fun hHeld => ?_)
        clear hK K
        refine norm_ (a' := ?_) ?_ ?_
        rotate_left
        ·show Act.put _ (some 21) _ = _
         simp only [Act.put, List.setIfInBounds_toArray, List.set_cons_zero, List.set_cons_succ, i64_w, i32_w, u8_w, u64_u8]
         rfl
        refine one_ (i := 2) (N := some 22) #[true, true, true, true, true, true, true, true, false, false, false] rfl rfl (one_of HT_.out (by kernel_rfl)) (by decide) (fun K hK => ?_)
        refine goes_ Try.func66 (by kernel_rfl) rfl #[.slice Ao16 x5_1.length co16, .slice Ao17 t1151.length co17] (by rfl) rfl rfl (by (try simp only [List.map_toArray, List.map_cons, List.map_nil]); first | done | rfl | (simp only [List.length_drop, List.length_take]; rfl)) ?_
        with_reducible refine (nat_Mul.calls k1 _ _ x5_1 _ _ t1151 t1154 _ ?side1 ?side2 ?side3 ?side4 A10.out).mono ?_
        (case side1 => repeat (first | exact (Kd.R_reads' HO_5.out).2.2 | (with_reducible refine Kd.C_alloc ?_ _) | (with_reducible refine Kd.C_drewN ?_ _) | (with_reducible refine Kd.C_drew ?_)))
        (case side2 => exact (Kd.R_reads' HO_5.out).2.1)
        (case side3 => repeat (first | exact (Kd.R_reads' HO1153.out).2.2 | (with_reducible refine Kd.C_alloc ?_ _) | (with_reducible refine Kd.C_drewN ?_ _) | (with_reducible refine Kd.C_drew ?_)))
        (case side4 => exact (Kd.R_reads' HO1153.out).2.1)
        rintro e w18 ⟨v1155, rfl, ho0, hb⟩
        refine ⟨_, rfl, ?_⟩
        have HO1156 := Aside0.mk (Kd.R_lower (Kd.R_new' (Kd.R_new' ho0 (Kd.R_lt (by (with_reducible repeat (first | apply Kd.R_alloc | apply Kd.R_drewN | apply Kd.R_drew)); exact HO_5.out))) (Kd.R_lt (by (with_reducible repeat (first | apply Kd.R_alloc | apply Kd.R_drewN | apply Kd.R_drew)); exact HO1153.out))) (below_size (by repeat (first | (with_reducible first | exact HB.out | apply below_alloc | apply pw_below_drewN | apply below_drew1) | exact HB.out))))
        replace HO_5 := Aside0.mk (Kd.R_elder' (by (with_reducible repeat (first | apply Kd.R_alloc | apply Kd.R_drewN | apply Kd.R_drew)); exact HO_5.out) (Kd.R_base ho0) hb)
        replace HO1153 := Aside0.mk (Kd.R_elder' (by (with_reducible repeat (first | apply Kd.R_alloc | apply Kd.R_drewN | apply Kd.R_drew)); exact HO1153.out) (Kd.R_base ho0) hb)
        replace HB := Aside0.mk (below_step (by repeat (first | (with_reducible first | exact HB.out | apply below_alloc | apply pw_below_drewN | apply below_drew1) | exact HB.out)) hb)
        (try clear hb)
        (try clear ho0)
        refine hK.out _ _ trivial (fun hHeld => ?_)
        clear hK K
        refine norm_ (a' := ?_) ?_ ?_
        rotate_left
        ·show Act.put _ (some 22) _ = _
         simp only [Act.put, List.setIfInBounds_toArray, List.set_cons_zero, List.set_cons_succ, i64_w, i32_w, u8_w, u64_u8]
         rfl
        refine one_ (i := 8) (N := some 28) #[true, true, true, true, true, true, true, true, true, false, false] rfl rfl (one_of HT_.out (by kernel_rfl)) (by decide) (fun K hK => ?_)
        refine goes_ Try.func37 (by kernel_rfl) rfl #[.int .u64 (((bt a0 x9_1) - 48) % 256)] (by rfl) rfl rfl (by (try simp only [List.map_toArray, List.map_cons, List.map_nil]); first | done | rfl | (simp only [List.length_drop, List.length_take]; rfl)) ?_
        with_reducible refine (nat_Of.calls k1 (((bt a0 x9_1) - 48) % 256) t1157 _ A12.out).mono ?_
        rintro e w19 ⟨v1158, rfl, ho0, hb⟩
        refine ⟨_, rfl, ?_⟩
        have HO1159 := Aside0.mk (Kd.R_lower (Kd.R_new' (Kd.R_new' (Kd.R_new' ho0 (Kd.R_lt (by (with_reducible repeat (first | apply Kd.R_alloc | apply Kd.R_drewN | apply Kd.R_drew)); exact HO_5.out))) (Kd.R_lt (by (with_reducible repeat (first | apply Kd.R_alloc | apply Kd.R_drewN | apply Kd.R_drew)); exact HO1153.out))) (Kd.R_lt (by (with_reducible repeat (first | apply Kd.R_alloc | apply Kd.R_drewN | apply Kd.R_drew)); exact HO1156.out))) (below_size (by repeat (first | (with_reducible first | exact HB.out | apply below_alloc | apply pw_below_drewN | apply below_drew1) | exact HB.out))))
        replace HO_5 := Aside0.mk (Kd.R_elder' (by (with_reducible repeat (first | apply Kd.R_alloc | apply Kd.R_drewN | apply Kd.R_drew)); exact HO_5.out) (Kd.R_base ho0) hb)
        replace HO1153 := Aside0.mk (Kd.R_elder' (by (with_reducible repeat (first | apply Kd.R_alloc | apply Kd.R_drewN | apply Kd.R_drew)); exact HO1153.out) (Kd.R_base ho0) hb)
        replace HO1156 := Aside0.mk (Kd.R_elder' (by (with_reducible repeat (first | apply Kd.R_alloc | apply Kd.R_drewN | apply Kd.R_drew)); exact HO1156.out) (Kd.R_base ho0) hb)
        replace HB := Aside0.mk (below_step (by repeat (first | (with_reducible first | exact HB.out | apply below_alloc | apply pw_below_drewN | apply below_drew1) | exact HB.out)) hb)
        (try clear hb)
        (try clear ho0)
        obtain ⟨Ao20, co20, eo20⟩ := Kd.R_slice HO1156.out
        (first | subst eo20 | (injection eo20 with f1_ f2_ f3_; have f4_ := f1_.symm; have f5_ := f3_.symm; clear f1_ f2_ f3_; subst f4_; subst f5_))
        obtain ⟨Ao21, co21, eo21⟩ := Kd.R_slice HO1159.out
        (first | subst eo21 | (injection eo21 with f1_ f2_ f3_; have f4_ := f1_.symm; have f5_ := f3_.symm; clear f1_ f2_ f3_; subst f4_; subst f5_))
        refine hK.out _ _ trivial (fun hHeld => ?_)
        clear hK K
        refine norm_ (a' := ?_) ?_ ?_
        rotate_left
        ·show Act.put _ (some 28) _ = _
         simp only [Act.put, List.setIfInBounds_toArray, List.set_cons_zero, List.set_cons_succ, i64_w, i32_w, u8_w, u64_u8]
         rfl
        refine one_ (i := 9) (N := some 29) #[true, true, true, true, true, true, true, true, true, true, false] rfl rfl (one_of HT_.out (by kernel_rfl)) (by decide) (fun K hK => ?_)
        refine goes_ Try.func75 (by kernel_rfl) rfl #[.slice Ao20 t1154.length co20, .slice Ao21 t1157.length co21] (by rfl) rfl rfl (by (try simp only [List.map_toArray, List.map_cons, List.map_nil]); first | done | rfl | (simp only [List.length_drop, List.length_take]; rfl)) ?_
        with_reducible refine (nat_Add.calls k1 _ _ t1154 _ _ t1157 t1160 _ ?side1 ?side2 ?side3 ?side4 A13.out).mono ?_
        (case side1 => repeat (first | exact (Kd.R_reads' HO1156.out).2.2 | (with_reducible refine Kd.C_alloc ?_ _) | (with_reducible refine Kd.C_drewN ?_ _) | (with_reducible refine Kd.C_drew ?_)))
        (case side2 => exact (Kd.R_reads' HO1156.out).2.1)
        (case side3 => repeat (first | exact (Kd.R_reads' HO1159.out).2.2 | (with_reducible refine Kd.C_alloc ?_ _) | (with_reducible refine Kd.C_drewN ?_ _) | (with_reducible refine Kd.C_drew ?_)))
        (case side4 => exact (Kd.R_reads' HO1159.out).2.1)
        rintro e w22 ⟨v1161, rfl, ho0, hb⟩
        refine ⟨_, rfl, ?_⟩
        have HO1162 := Aside0.mk (Kd.R_lower (Kd.R_new' (Kd.R_new' (Kd.R_new' (Kd.R_new' ho0 (Kd.R_lt (by (with_reducible repeat (first | apply Kd.R_alloc | apply Kd.R_drewN | apply Kd.R_drew)); exact HO_5.out))) (Kd.R_lt (by (with_reducible repeat (first | apply Kd.R_alloc | apply Kd.R_drewN | apply Kd.R_drew)); exact HO1153.out))) (Kd.R_lt (by (with_reducible repeat (first | apply Kd.R_alloc | apply Kd.R_drewN | apply Kd.R_drew)); exact HO1156.out))) (Kd.R_lt (by (with_reducible repeat (first | apply Kd.R_alloc | apply Kd.R_drewN | apply Kd.R_drew)); exact HO1159.out))) (below_size (by repeat (first | (with_reducible first | exact HB.out | apply below_alloc | apply pw_below_drewN | apply below_drew1) | exact HB.out))))
        replace HO_5 := Aside0.mk (Kd.R_elder' (by (with_reducible repeat (first | apply Kd.R_alloc | apply Kd.R_drewN | apply Kd.R_drew)); exact HO_5.out) (Kd.R_base ho0) hb)
        replace HO1153 := Aside0.mk (Kd.R_elder' (by (with_reducible repeat (first | apply Kd.R_alloc | apply Kd.R_drewN | apply Kd.R_drew)); exact HO1153.out) (Kd.R_base ho0) hb)
        replace HO1156 := Aside0.mk (Kd.R_elder' (by (with_reducible repeat (first | apply Kd.R_alloc | apply Kd.R_drewN | apply Kd.R_drew)); exact HO1156.out) (Kd.R_base ho0) hb)
        replace HO1159 := Aside0.mk (Kd.R_elder' (by (with_reducible repeat (first | apply Kd.R_alloc | apply Kd.R_drewN | apply Kd.R_drew)); exact HO1159.out) (Kd.R_base ho0) hb)
        replace HB := Aside0.mk (below_step (by repeat (first | (with_reducible first | exact HB.out | apply below_alloc | apply pw_below_drewN | apply below_drew1) | exact HB.out)) hb)
        (try clear hb)
        (try clear ho0)
        refine hK.out _ _ trivial (fun hHeld => ?_)
        clear hK K
        refine norm_ (a' := ?_) ?_ ?_
        rotate_left
        ·show Act.put _ (some 29) _ = _
         simp only [Act.put, List.setIfInBounds_toArray, List.set_cons_zero, List.set_cons_succ, i64_w, i32_w, u8_w, u64_u8]
         rfl
        refine pure_ (i := 10) (N := some 5) (v := ?_) (a' := ?_) #[true, true, true, true, true, true, true, true, true, true, true] rfl rfl (any_of HT_.out (by kernel_rfl)) (fun _ _ _ h => h) (Or.inl ⟨by rfl, ?_⟩) ?_ ?_
        rotate_left
        ·intro w'
         go_simp
         with_reducible rfl
        rotate_left
        ·simp only [Act.put, List.setIfInBounds_toArray, List.set_cons_zero, List.set_cons_succ, i64_w, i32_w, u8_w, u64_u8]
         rfl
        refine done_ (done_of HT_.out (by kernel_rfl)) ?_
        try go_wp2
        go_roundg k1
        case measure => have := HK1.out; omega
        case rel => exact ⟨(t1160), (wrap64 (x9_1 + 1)), (by first | rfl | (simp; done) | (simp [*]; done)), H', ⟨by have := HK1.out; omega⟩, ⟨by (with_reducible repeat (first | apply Kd.R_alloc | apply Kd.R_drewN | apply Kd.R_drew)); exact Kd.R_mono HO1162.out (fun _ hk => trivial)⟩, ⟨by repeat (first | (with_reducible first | exact HB.out | apply below_alloc | apply pw_below_drewN | apply below_drew1) | exact HB.out)⟩⟩
       ·rw [if_neg c8] at H
        have c8b0 : decide (x9_1 < 400) = false := decide_eq_false c8
        clear c8
        have H' := Aside0.mk H
        clear H
        have p5 : 0 ≤ (x9_1 : Int) := of_decide_eq_true (by first | (with_reducible assumption) | assumption)
        have q5 : x9_1 < (a0.size : Int) := of_decide_eq_true (by first | (with_reducible assumption) | assumption)
        have hx5 := bt_at a0 x9_1
        replace p5 := eq_true p5
        replace q5 := eq_true q5
        go_wp2_with (first | (go_at_call 74; (with_reducible refine (nat_Parse_cl1.calls (bt a0 x9_1) true _ A6.out).mono ?_); rintro e w' ⟨rfl, ⟨nd, rfl⟩⟩))
        go_roundg k1
        case measure => have := HK1.out; omega
        case rel => exact ⟨(x5_1), (wrap64 (x9_1 + 1)), (by first | rfl | (simp; done) | (simp [*]; done)), H', ⟨by have := HK1.out; omega⟩, ⟨by (with_reducible repeat (first | apply Kd.R_alloc | apply Kd.R_drewN | apply Kd.R_drew)); exact HO_5.out⟩, ⟨by repeat (first | (with_reducible first | exact HB.out | apply below_alloc | apply pw_below_drewN | apply below_drew1) | exact HB.out)⟩⟩
      ·replace c7 := Bool.eq_false_iff.mpr c7
       subst c7
       have H1 : (some (([] : List Int), 2)) = some (r1, r2) := by rw [if_neg (show ¬ (false = true) by decide)] at H; exact H
       clear H
       have H := H1
       clear H1
       simp only [Option.some.injEq, Prod.mk.injEq] at H
       obtain ⟨rfl, rfl⟩ := H
       have p5 : 0 ≤ (x9_1 : Int) := of_decide_eq_true (by first | (with_reducible assumption) | assumption)
       have q5 : x9_1 < (a0.size : Int) := of_decide_eq_true (by first | (with_reducible assumption) | assumption)
       have hx5 := bt_at a0 x9_1
       replace p5 := eq_true p5
       replace q5 := eq_true q5
       go_wp2_with (first | (go_at_call 74; (with_reducible refine (nat_Parse_cl1.calls (bt a0 x9_1) false _ A6.out).mono ?_); rintro e w' ⟨rfl, ⟨nd, rfl⟩⟩))
       go_ret2
       exact ⟨_, by first | rfl | (simp [errW_none, errW_some] <;> rfl) | (simp [*, errW_none, errW_some] <;> rfl), by first | exact Kd.R_nil _ _ _ _ _ | exact Kd.N_nil _ _ _ _ _ | exact Kd.V_nil _ _ _ _ _ | exact Kd.Q_nil _ _ _ _ _ | exact Kd.S_nil _ _ _ _ _, by repeat (first | (with_reducible first | exact HB.out | apply below_alloc | apply pw_below_drewN | apply below_drew1) | exact HB.out)⟩
     ·rw [if_neg c4] at H
      exact absurd H (by simp)
    ·rw [if_neg c3] at H
     exact absurd H (by simp)
   ·rw [if_neg c2] at H
    have c2b0 : decide (x9_1 < (a0.size : Int)) = false := decide_eq_false c2
    clear c2
    by_cases c23 : a0.toList = ([] : List UInt8)
    ·rw [if_pos c23] at H
     have c23b0 : (a0.toList == ([] : List UInt8)) = true := beq_iff_eq.mpr c23
     have c23b1 : (a0.toList != ([] : List UInt8)) = false := bne_eq_false_iff_eq.mpr c23
     clear c23
     simp only [Option.some.injEq, Prod.mk.injEq] at H
     obtain ⟨rfl, rfl⟩ := H
     go_wp2
     go_ret2
     exact ⟨_, by first | rfl | (simp [errW_none, errW_some] <;> rfl) | (simp [*, errW_none, errW_some] <;> rfl), by first | exact Kd.R_nil _ _ _ _ _ | exact Kd.N_nil _ _ _ _ _ | exact Kd.V_nil _ _ _ _ _ | exact Kd.Q_nil _ _ _ _ _ | exact Kd.S_nil _ _ _ _ _, by repeat (first | (with_reducible first | exact HB.out | apply below_alloc | apply pw_below_drewN | apply below_drew1) | exact HB.out)⟩
    ·rw [if_neg c23] at H
     have c23b0 : (a0.toList == ([] : List UInt8)) = false := beq_eq_false_iff_ne.mpr c23
     have c23b1 : (a0.toList != ([] : List UInt8)) = true := bne_iff_ne.mpr c23
     by_cases c24 : (a0.size : Int) > 400
     ·rw [if_pos c24] at H
      have c24b0 : decide (400 < (a0.size : Int)) = true := decide_eq_true c24
      have c24b1 : decide (400 < a0.size) = true := decide_eq_true (by omega)
      clear c24
      simp only [Option.some.injEq, Prod.mk.injEq] at H
      obtain ⟨rfl, rfl⟩ := H
      go_wp2
      go_ret2
      exact ⟨_, by first | rfl | (simp [errW_none, errW_some] <;> rfl) | (simp [*, errW_none, errW_some] <;> rfl), by first | exact Kd.R_nil _ _ _ _ _ | exact Kd.N_nil _ _ _ _ _ | exact Kd.V_nil _ _ _ _ _ | exact Kd.Q_nil _ _ _ _ _ | exact Kd.S_nil _ _ _ _ _, by repeat (first | (with_reducible first | exact HB.out | apply below_alloc | apply pw_below_drewN | apply below_drew1) | exact HB.out)⟩
     ·rw [if_neg c24] at H
      have c24b0 : decide (400 < (a0.size : Int)) = false := decide_eq_false c24
      have c24b1 : decide (400 < a0.size) = false := decide_eq_false (by omega)
      clear c24
      simp only [Option.some.injEq, Prod.mk.injEq] at H
      obtain ⟨rfl, rfl⟩ := H
      go_wp2
      go_ret2
      exact ⟨_, by first | rfl | (simp [errW_none, errW_some] <;> rfl) | (simp [*, errW_none, errW_some] <;> rfl), by (with_reducible repeat (first | apply Kd.R_alloc | apply Kd.R_drewN | apply Kd.R_drew)); exact HO_5.out, by repeat (first | (with_reducible first | exact HB.out | apply below_alloc | apply pw_below_drewN | apply below_drew1) | exact HB.out)⟩

theorem nat_Parse.cl (b : Int) : nat_Parse_cl1.f b = some (decide (48 ≤ b ∧ b ≤ 57)) := by
 unfold nat_Parse_cl1.f
 by_cases h : b ≥ 48
 ·rw [if_pos h]
  by_cases h2 : b ≤ 57
  ·rw [decide_eq_true h2, decide_eq_true ⟨h, h2⟩]
  ·rw [decide_eq_false h2, decide_eq_false (fun e => h2 e.2)]
 ·rw [if_neg h, decide_eq_false (fun e => h e.1)]
/-- One digit more. -/
theorem nat_Parse.step_ {s : ByteArray} {i d v : Nat} (hi : i < s.size) (hs : s.size < 1000000) (hb : bt s (i : Int) = ((48 + d : Nat) : Int)) (hd : d < 10) (hv : v < 2 ^ (32 * i)) (hi4 : i < 400) {r : List Int × Int} (k : Ev (fun k => nat_Parse.l0 k s (Num.nd (v * 10 + d)) (s.size : Int) ((i + 1 : Nat) : Int)) r) :
  Ev (fun k => nat_Parse.l0 k s (Num.nd v) (s.size : Int) (i : Int)) r := by
 have O10 : Ev (fun k => nat_Of.f k 10) (Num.nd 10) := nat_Of.ev 10 (by omega)
 have Od := nat_Of.ev d (by omega)
 have kv := Num.ok_nd hv (by omega)
 have k10 := Num.ok_nd (n := 10) (k := 1) (by decide) (by omega)
 have kd := Num.ok_nd (n := d) (k := 1) (by omega) (by omega)
 have hm : v * 10 < 2 ^ (32 * (i + 1)) := by rw [Num.pow_succ32]; omega
 have km := Num.ok_nd hm (by omega)
 have M := nat_Mul.ev kv k10
 rw [Num.nv_nd, Num.nv_nd] at M
 have A := nat_Add.ev km kd
 rw [Num.nv_nd, Num.nv_nd] at A
 refine Ev.step (f := fun k => (nat_Of.f k 10).bind fun t494 => ((nat_Mul.f k (Num.nd v) t494).bind fun t497 => ((nat_Of.f k (d : Int)).bind fun t500 => ((nat_Add.f k t497 t500).bind fun t503 => (nat_Parse.l0 k s t503 (s.size : Int) ((i + 1 : Nat) : Int)))))) (fun k => ?_) (Ev.bind O10 (Ev.bind M (Ev.bind Od (Ev.bind A k))))
 rw [nat_Parse.l0, if_pos (by omega), if_pos (by omega), if_pos (by omega), hb, nat_Parse.cl, Option.bind_some, decide_eq_true (by omega), if_pos rfl, if_pos (by omega), Dec.w64s _ (by omega), show (((48 + d : Nat) : Int) - 48) % 256 = (d : Int) from by omega]
/-- A digit behind the first 400. -/
theorem nat_Parse.skip_ {s : ByteArray} {x5 : List Int} {i d : Nat} (hi : i < s.size) (hs : s.size < 1000000) (hb : bt s (i : Int) = ((48 + d : Nat) : Int)) (hd : d < 10) (hi4 : ¬ i < 400) {r : List Int × Int} (k : Ev (fun k => nat_Parse.l0 k s x5 (s.size : Int) ((i + 1 : Nat) : Int)) r) :
  Ev (fun k => nat_Parse.l0 k s x5 (s.size : Int) (i : Int)) r := by
 refine Ev.step (fun k => ?_) k
 rw [nat_Parse.l0, if_pos (by omega), if_pos (by omega), if_pos (by omega), hb, nat_Parse.cl, Option.bind_some, decide_eq_true (by omega), if_pos rfl, if_neg (by omega), Dec.w64s _ (by omega)]
/-- What is no digit. -/
theorem nat_Parse.bad_ {s : ByteArray} {x5 : List Int} {i : Nat} (hi : i < s.size) (hb : ¬ (48 ≤ bt s (i : Int) ∧ bt s (i : Int) ≤ 57)) : Ev (fun k => nat_Parse.l0 k s x5 (s.size : Int) (i : Int)) ([], 2) := by
 refine Ev.step (f := fun _ => some ([], 2)) (fun k => ?_) (Ev.now _)
 rw [nat_Parse.l0, if_pos (by omega), if_pos (by omega), if_pos (by omega), nat_Parse.cl, Option.bind_some, decide_eq_false hb, if_neg (by decide)]
/-- A text in which something is no digit. -/
theorem nat_Parse.ev_bad {s : ByteArray} (hs : s.size < 1000000) {p : Nat} (hp : p < s.size) (hdig : ∀ i, i < p → ∃ d, d < 10 ∧ bt s (i : Int) = ((48 + d : Nat) : Int)) (hb : ¬ (48 ≤ bt s (p : Int) ∧ bt s (p : Int) ≤ 57)) :
  Ev (fun k => nat_Parse.f k s) ([], 2) := by
 have main : ∀ e i v : Nat, i + e = p → (i ≤ 400 → v < 2 ^ (32 * i)) → Ev (fun k => nat_Parse.l0 k s (Num.nd v) (s.size : Int) (i : Int)) ([], 2) := by
  intro e
  induction e with
  | zero =>
   intro i v hi _
   obtain rfl : i = p := by omega
   exact nat_Parse.bad_ hp hb
  | succ e ih =>
   intro i v hi hv
   obtain ⟨d, hd, hbd⟩ := hdig i (by omega)
   by_cases h4 : i < 400
   ·refine nat_Parse.step_ (by omega) hs hbd hd (hv (by omega)) h4 (ih (i + 1) _ (by omega) (fun _ => ?_))
    have := hv (by omega)
    rw [Num.pow_succ32]
    omega
   ·exact nat_Parse.skip_ (by omega) hs hbd hd h4 (ih (i + 1) v (by omega) (fun h => by omega))
 have := main p 0 0 (by omega) (fun _ => by rw [Nat.mul_zero, Nat.pow_zero]; omega)
 rw [Num.nd_zero] at this
 exact this
/-- A text of digits. -/
theorem nat_Parse.ev_dig {l : List Nat} (hl : Dec.Ds l) (hs : l.length < 1000000) : Ev (fun k => nat_Parse.f k (Dec.tx l)) (if l.length = 0 then ([], 2) else if 400 < l.length then ([], 4) else (Num.nd (Dec.dv l), 0)) := by
 have hsz := Dec.tx_size l
 have main : ∀ e i : Nat, i + e = l.length → Ev (fun k => nat_Parse.l0 k (Dec.tx l) (Num.nd (Dec.dv (l.drop (l.length - min i 400)))) (((Dec.tx l).size : Nat) : Int) (i : Int)) (if l.length = 0 then ([], 2) else if 400 < l.length then ([], 4) else (Num.nd (Dec.dv l), 0)) := by
  intro e
  induction e with
  | zero =>
   intro i hi
   refine Ev.step (f := fun _ => some (if l.length = 0 then ([], 2) else if 400 < l.length then ([], 4) else (Num.nd (Dec.dv l), 0))) (fun k => ?_) (Ev.now _)
   rw [nat_Parse.l0, hsz, if_neg (by omega)]
   by_cases h0 : l.length = 0
   ·obtain rfl : l = [] := List.eq_nil_of_length_eq_zero h0
    rw [if_pos (by rw [Dec.tx_toList]; rfl)]
    rfl
   ·rw [if_neg (by rw [Dec.tx_toList]; simpa using fun e => h0 (by rw [e]; rfl)), if_neg h0]
    by_cases h4 : 400 < l.length
    ·rw [if_pos (by omega), if_pos h4]
    ·rw [if_neg (by omega), if_neg h4, show l.length - min i 400 = 0 from by omega, List.drop_zero]
  | succ e ih =>
   intro i hi
   have hb := Dec.bt_tx hl i (by omega)
   have hd := hl.getD (l.length - 1 - i)
   obtain ⟨d, hdd⟩ : ∃ d, d = l.getD (l.length - 1 - i) 0 := ⟨_, rfl⟩
   rw [← hdd] at hb hd
   have hb' : bt (Dec.tx l) (i : Int) = ((48 + d : Nat) : Int) := by rw [hb]; omega
   by_cases h4 : i < 400
   ·have hv := Dec.dv_lt (hl.drop (l.length - i))
    have hv2 : Dec.dv (l.drop (l.length - i)) < 2 ^ (32 * i) := by
     rw [List.length_drop, show l.length - (l.length - i) = i from by omega] at hv
     refine Nat.lt_of_lt_of_le hv ?_
     rw [Nat.pow_mul]
     exact Nat.pow_le_pow_left (by decide) i
    have hnext : Dec.dv (l.drop (l.length - (i + 1))) = Dec.dv (l.drop (l.length - i)) * 10 + d := by
     rw [show l.length - (i + 1) = l.length - 1 - i from by omega, List.drop_eq_getElem_cons (by omega), Dec.dv, show l.length - 1 - i + 1 = l.length - i from by omega]
     have : l[l.length - 1 - i] = d := by rw [hdd, List.getD_eq_getElem?_getD, List.getElem?_eq_getElem (by omega)]; rfl
     rw [this]
     omega
    have := ih (i + 1) (by omega)
    rw [show min (i + 1) 400 = i + 1 from by omega, hnext] at this
    rw [show min i 400 = i from by omega]
    exact nat_Parse.step_ (by omega) (by omega) hb' hd hv2 h4 this
   ·have := ih (i + 1) (by omega)
    rw [show min (i + 1) 400 = min i 400 from by omega] at this
    exact nat_Parse.skip_ (by omega) (by omega) hb' hd h4 this
 have := main l.length 0 (by omega)
 rw [Nat.zero_min, Nat.sub_zero, List.drop_length, Dec.dv, Num.nd_zero] at this
 exact this
set_option synthInstance.checkSynthOrder false in
open Lin in
instance nat_Parse.t {k : Nat} {a0 : ByteArray} {r : List Int × Int} [h : Ans (nat_Parse.f k a0) r] : Tl Try.prog 42 [.one (.val (.string a0))] (.tup [.one (.row r.1), .one (.val (.int .i64 r.2))]) := ⟨Tells.of Try.func42 fun out w vs ho hl hv => by
 obtain ⟨u0, rfl, h0⟩ := args1 hl hv
 obtain rfl := h0.1
 refine (nat_Parse.calls k a0 _ _ w h.out).mono ?_
 rintro e w' ⟨v0_, rfl, gv0_, hb⟩
 exact ⟨_, rfl, tup2 (row_R gv0_ ho) (⟨rfl, rfl⟩), hb⟩⟩
def stringslite_HasPrefix.f (a0 : ByteArray) (a1 : ByteArray) : Option (Bool) := if (a0.size : Int) ≥ (a1.size : Int) then (if 0 ≤ (a1.size : Int) then (if (a1.size : Int) ≤ (a0.size : Int) then (some ((a0.extract 0 ((a1.size : Int) : Int).toNat).toList == a1.toList)) else (none)) else (none)) else (some false)
set_option maxHeartbeats 8000000 in
set_option maxRecDepth 100000 in
theorem stringslite_HasPrefix.calls (a0 : ByteArray) (a1 : ByteArray) (r : Bool) (w : World) (h : stringslite_HasPrefix.f a0 a1 = some r) :
  Calls Try.prog 96 #[.string a0, .string a1] w fun e w' => e = .returned (.bool r) ∧ Drawn0 w w' := by
 have H : (if (a0.size : Int) ≥ (a1.size : Int) then (if 0 ≤ (a1.size : Int) then (if (a1.size : Int) ≤ (a0.size : Int) then (some ((a0.extract 0 ((a1.size : Int) : Int).toNat).toList == a1.toList)) else (none)) else (none)) else (some false)) = some r := h
 clear h
 by_cases c3 : (a0.size : Int) ≥ (a1.size : Int)
 ·rw [if_pos c3] at H
  have c3b0 : decide ((a1.size : Int) ≤ (a0.size : Int)) = true := decide_eq_true c3
  have c3b1 : decide (a1.size ≤ a0.size) = true := decide_eq_true (Int.ofNat_le.mp c3)
  clear c3
  by_cases c4 : 0 ≤ (a1.size : Int)
  ·rw [if_pos c4] at H
   have c4b0 := eq_true c4
   have c4b1 : decide (0 ≤ (a1.size : Int)) = true := decide_eq_true c4
   clear c4
   by_cases c5 : (a1.size : Int) ≤ (a0.size : Int)
   ·rw [if_pos c5] at H
    have c5b0 := eq_true c5
    have c5b1 : decide ((a1.size : Int) ≤ (a0.size : Int)) = true := decide_eq_true c5
    clear c5
    obtain rfl := Option.some.inj H
    go_enter Try.func96, Try.ntmps96
    go_wp2
    go_ret
    exact ⟨by first | rfl | (simp; done) | (simp [*]; done), by repeat (first | exact Drawn0.refl _ | apply Drawn0.step)⟩
   ·rw [if_neg c5] at H
    exact absurd H (by simp)
  ·rw [if_neg c4] at H
   exact absurd H (by simp)
 ·rw [if_neg c3] at H
  have c3b0 : decide ((a1.size : Int) ≤ (a0.size : Int)) = false := decide_eq_false c3
  have c3b1 : decide (a1.size ≤ a0.size) = false := decide_eq_false (fun h => c3 (Int.ofNat_le.mpr h))
  clear c3
  obtain rfl := Option.some.inj H
  go_enter Try.func96, Try.ntmps96
  go_wp2
  go_ret
  exact ⟨by first | rfl | (simp; done) | (simp [*]; done), by repeat (first | exact Drawn0.refl _ | apply Drawn0.step)⟩
set_option synthInstance.checkSynthOrder false in
open Lin in
instance stringslite_HasPrefix.t {a0 : ByteArray} {a1 : ByteArray} {r : Bool} [h : Ans (stringslite_HasPrefix.f a0 a1) r] : Tl Try.prog 96 [.one (.val (.string a0)), .one (.val (.string a1))] (.el (.one (.val (.bool r)))) := ⟨Tells.of Try.func96 fun out w vs ho hl hv => by
 obtain ⟨u0, u1, rfl, h0, h1⟩ := args2 hl hv
 obtain rfl := h0.1
 obtain rfl := h1.1
 refine (stringslite_HasPrefix.calls a0 a1 _ w h.out).mono ?_
 rintro e w' ⟨rfl, hb⟩
 exact ⟨_, rfl, ⟨rfl, rfl⟩, below_of_drawn hb⟩⟩
def stringslite_CutPrefix.f (a0 : ByteArray) (a1 : ByteArray) : Option (ByteArray × Bool) := (stringslite_HasPrefix.f a0 a1).bind fun t1163 => (if t1163 = true then (if 0 ≤ (a1.size : Int) then (if (a1.size : Int) ≤ (a0.size : Int) then (some (a0.extract ((a1.size : Int) : Int).toNat a0.size, true)) else (none)) else (none)) else (some (a0, false)))
set_option maxHeartbeats 8000000 in
set_option maxRecDepth 100000 in
theorem stringslite_CutPrefix.calls (a0 : ByteArray) (a1 : ByteArray) (r1 : ByteArray) (r2 : Bool) (w : World) (h : stringslite_CutPrefix.f a0 a1 = some (r1, r2)) :
  Calls Try.prog 92 #[.string a0, .string a1] w fun e w' => e = .returned (.tuple #[.string r1, .bool r2]) ∧ Drawn0 w w' := by
 have H : ((stringslite_HasPrefix.f a0 a1).bind fun t1163 => (if t1163 = true then (if 0 ≤ (a1.size : Int) then (if (a1.size : Int) ≤ (a0.size : Int) then (some (a0.extract ((a1.size : Int) : Int).toNat a0.size, true)) else (none)) else (none)) else (some (a0, false)))) = some (r1, r2) := h
 clear h
 replace H := Option.bind_eq_some_iff.mp H
 obtain ⟨t1163, A30, H⟩ := H
 try dsimp only at H
 have A3 := Aside0.mk A30
 clear A30
 by_cases c4 : t1163 = true
 ·subst c4
  have H1 : (if 0 ≤ (a1.size : Int) then (if (a1.size : Int) ≤ (a0.size : Int) then (some (a0.extract ((a1.size : Int) : Int).toNat a0.size, true)) else (none)) else (none)) = some (r1, r2) := by rw [if_pos rfl] at H; exact H
  clear H
  have H := H1
  clear H1
  by_cases c5 : 0 ≤ (a1.size : Int)
  ·rw [if_pos c5] at H
   have c5b0 := eq_true c5
   have c5b1 : decide (0 ≤ (a1.size : Int)) = true := decide_eq_true c5
   clear c5
   by_cases c6 : (a1.size : Int) ≤ (a0.size : Int)
   ·rw [if_pos c6] at H
    have c6b0 := eq_true c6
    have c6b1 : decide ((a1.size : Int) ≤ (a0.size : Int)) = true := decide_eq_true c6
    clear c6
    simp only [Option.some.injEq, Prod.mk.injEq] at H
    obtain ⟨rfl, rfl⟩ := H
    go_enter Try.func92, Try.ntmps92
    go_wp2_with (first | ((with_reducible refine gate_callee (f := 96) rfl ?_); refine Short.goesS_ (some 8) Try.func96 #[.string a0, .string a1] ?_; (with_reducible refine (stringslite_HasPrefix.calls a0 a1 true _ A3.out).mono ?_); rintro e w' ⟨rfl, ⟨nd, rfl⟩⟩; refine ⟨_, rfl, ?_⟩))
    go_ret2
    exact ⟨by first | rfl | (simp; done) | (simp [*]; done), by repeat (first | exact Drawn0.refl _ | apply Drawn0.step)⟩
   ·rw [if_neg c6] at H
    exact absurd H (by simp)
  ·rw [if_neg c5] at H
   exact absurd H (by simp)
 ·replace c4 := Bool.eq_false_iff.mpr c4
  subst c4
  have H1 : (some (a0, false)) = some (r1, r2) := by rw [if_neg (show ¬ (false = true) by decide)] at H; exact H
  clear H
  have H := H1
  clear H1
  simp only [Option.some.injEq, Prod.mk.injEq] at H
  obtain ⟨rfl, rfl⟩ := H
  go_enter Try.func92, Try.ntmps92
  go_wp2_with (first | ((with_reducible refine gate_callee (f := 96) rfl ?_); refine Short.goesS_ (some 8) Try.func96 #[.string a0, .string a1] ?_; (with_reducible refine (stringslite_HasPrefix.calls a0 a1 false _ A3.out).mono ?_); rintro e w' ⟨rfl, ⟨nd, rfl⟩⟩; refine ⟨_, rfl, ?_⟩))
  go_ret2
  exact ⟨by first | rfl | (simp; done) | (simp [*]; done), by repeat (first | exact Drawn0.refl _ | apply Drawn0.step)⟩
set_option synthInstance.checkSynthOrder false in
open Lin in
instance stringslite_CutPrefix.t {a0 : ByteArray} {a1 : ByteArray} {r : ByteArray × Bool} [h : Ans (stringslite_CutPrefix.f a0 a1) r] : Tl Try.prog 92 [.one (.val (.string a0)), .one (.val (.string a1))] (.tup [.one (.val (.string r.1)), .one (.val (.bool r.2))]) := ⟨Tells.of Try.func92 fun out w vs ho hl hv => by
 obtain ⟨u0, u1, rfl, h0, h1⟩ := args2 hl hv
 obtain rfl := h0.1
 obtain rfl := h1.1
 refine (stringslite_CutPrefix.calls a0 a1 _ _ w h.out).mono ?_
 rintro e w' ⟨rfl, hb⟩
 exact ⟨_, rfl, tup2 (⟨rfl, rfl⟩) (⟨rfl, rfl⟩), below_of_drawn hb⟩⟩
def strings_CutPrefix.f (a0 : ByteArray) (a1 : ByteArray) : Option (ByteArray × Bool) := (stringslite_CutPrefix.f a0 a1).bind fun bt1164 => (some (bt1164.1, bt1164.2))
set_option maxHeartbeats 8000000 in
set_option maxRecDepth 100000 in
theorem strings_CutPrefix.calls (a0 : ByteArray) (a1 : ByteArray) (r1 : ByteArray) (r2 : Bool) (w : World) (h : strings_CutPrefix.f a0 a1 = some (r1, r2)) :
  Calls Try.prog 73 #[.string a0, .string a1] w fun e w' => e = .returned (.tuple #[.string r1, .bool r2]) ∧ Drawn0 w w' := by
 have H : ((stringslite_CutPrefix.f a0 a1).bind fun bt1164 => (some (bt1164.1, bt1164.2))) = some (r1, r2) := h
 clear h
 replace H := Option.bind_eq_some_iff.mp H
 obtain ⟨⟨t1164, t1165⟩, A30, H⟩ := H
 replace H : (some (t1164, t1165)) = some (r1, r2) := H
 have A3 := Aside0.mk A30
 clear A30
 simp only [Option.some.injEq, Prod.mk.injEq] at H
 obtain ⟨rfl, rfl⟩ := H
 go_enter Try.func73, Try.ntmps73
 go_wp2_with (first | ((with_reducible refine gate_callee (f := 92) rfl ?_); refine Short.goesS_ (some 8) Try.func92 #[.string a0, .string a1] ?_; (with_reducible refine (stringslite_CutPrefix.calls a0 a1 t1164 t1165 _ A3.out).mono ?_); rintro e w' ⟨rfl, ⟨nd, rfl⟩⟩; refine ⟨_, rfl, ?_⟩))
 go_ret2
 exact ⟨by first | rfl | (simp; done) | (simp [*]; done), by repeat (first | exact Drawn0.refl _ | apply Drawn0.step)⟩

theorem strings_CutPrefix.bytes (t : ByteArray) : t.toList = t.data.toList := by
 have := ByteArray.toList_mk t.data.toList
 rwa [Array.toArray_toList] at this
/-- A text with a - ahead loses it. -/
theorem strings_CutPrefix.sem (s : ByteArray) : strings_CutPrefix.f s (⟨#[45]⟩ : ByteArray) = some (if 0 < s.size ∧ bt s 0 = 45 then (s.extract 1 s.size, true) else (s, false)) := by
 have h1 : ((⟨#[45]⟩ : ByteArray).size : Int) = 1 := rfl
 unfold strings_CutPrefix.f stringslite_CutPrefix.f stringslite_HasPrefix.f
 simp only [h1]
 by_cases h : 0 < s.size
 ·rw [if_pos (show (s.size : Int) ≥ 1 by omega), if_pos (by omega), if_pos (show (1 : Int) ≤ (s.size : Int) by omega), Option.bind_some]
  have e : ((s.extract 0 (1 : Int).toNat).toList == (⟨#[45]⟩ : ByteArray).toList) = decide (bt s 0 = 45) := by
   have b1 : (⟨#[45]⟩ : ByteArray).toList = [45] := ByteArray.toList_mk [45]
   have hs : 0 < s.data.toList.length := by simpa using h
   obtain ⟨x, r, hx⟩ : ∃ x r, s.data.toList = x :: r := by
    cases e : s.data.toList with
    | nil => rw [e] at hs; exact absurd hs (by simp)
    | cons x r => exact ⟨x, r, rfl⟩
   have e2 : (s.extract 0 (1 : Int).toNat).toList = [x] := by
    rw [strings_CutPrefix.bytes, show (1 : Int).toNat = 1 from rfl, ByteArray.data_extract, Array.toList_extract, List.extract_eq_take_drop, hx]
    rfl
   have e3 : bt s 0 = (x.toNat : Int) := by
    unfold bt
    rw [dif_pos (show (0 : Int).toNat < s.size from h)]
    have : s[(0 : Int).toNat]'h = x := by
     have h2 : s.data.toList[0]'hs = x := by simp [hx]
     rw [← h2]
     rfl
    rw [this]
   rw [b1, e2, e3]
   by_cases hx45 : x = 45
   ·subst hx45
    rfl
   ·have : ¬ (x.toNat : Int) = 45 := fun e => hx45 (UInt8.toNat_inj.1 (by have h45 : (45 : UInt8).toNat = 45 := rfl; omega))
    rw [decide_eq_false this]
    simpa using hx45
  rw [e]
  by_cases hb : bt s 0 = 45
  ·rw [if_pos (decide_eq_true hb), if_pos (by omega), if_pos (show (1 : Int) ≤ (s.size : Int) by omega), Option.bind_some, if_pos ⟨h, hb⟩]
   rfl
  ·rw [if_neg (by rw [decide_eq_false hb]; decide), Option.bind_some, if_neg (fun e => hb e.2)]
 ·rw [if_neg (by omega), Option.bind_some, if_neg (by decide), Option.bind_some, if_neg (fun e => h e.1)]
set_option synthInstance.checkSynthOrder false in
open Lin in
instance strings_CutPrefix.t {a0 : ByteArray} {a1 : ByteArray} {r : ByteArray × Bool} [h : Ans (strings_CutPrefix.f a0 a1) r] : Tl Try.prog 73 [.one (.val (.string a0)), .one (.val (.string a1))] (.tup [.one (.val (.string r.1)), .one (.val (.bool r.2))]) := ⟨Tells.of Try.func73 fun out w vs ho hl hv => by
 obtain ⟨u0, u1, rfl, h0, h1⟩ := args2 hl hv
 obtain rfl := h0.1
 obtain rfl := h1.1
 refine (strings_CutPrefix.calls a0 a1 _ _ w h.out).mono ?_
 rintro e w' ⟨rfl, hb⟩
 exact ⟨_, rfl, tup2 (⟨rfl, rfl⟩) (⟨rfl, rfl⟩), below_of_drawn hb⟩⟩
def whole_Parse.f (k : Nat) (a0 : ByteArray) : Option (Bool × List Int × Int) := (strings_CutPrefix.f a0 (⟨#[45]⟩ : ByteArray)).bind fun bt1167 => ((nat_Parse.f k bt1167.1).bind fun bt1169 => (if bt1169.2 = 0 then ((whole_Make.f k bt1167.2 bt1169.1).bind fun bt1173 => (some (bt1173.1, bt1173.2, 0))) else (some (false, ([] : List Int), bt1169.2))))
theorem whole_Parse.ev0 {s s' : ByteArray} {m : Bool} (hc : (if 0 < s.size ∧ bt s 0 = 45 then (s.extract 1 s.size, true) else (s, false)) = (s', m)) {n K : Nat} (hn : n < 2 ^ (32 * K)) (hK : K < 1000000) (P : Ev (fun k => nat_Parse.f k s') (Num.nd n, 0)) :
  Ev (fun k => whole_Parse.f k s) ((Zn.zd (Zn.zv m n)).1, (Zn.zd (Zn.zv m n)).2, 0) := by
 have C := strings_CutPrefix.sem s
 rw [hc] at C
 unfold whole_Parse.f
 exact Dec.val (fun _ => C) (Ev.bind P (Dec.yes rfl (Ev.bind (whole_Make.ev (Zn.Is.nd hn) hK) (Ev.now _))))
theorem whole_Parse.ev1 {s s' : ByteArray} {m : Bool} (hc : (if 0 < s.size ∧ bt s 0 = 45 then (s.extract 1 s.size, true) else (s, false)) = (s', m)) {l : List Int} {e : Int} (he : e ≠ 0) (P : Ev (fun k => nat_Parse.f k s') (l, e)) :
  Ev (fun k => whole_Parse.f k s) (false, [], e) := by
 have C := strings_CutPrefix.sem s
 rw [hc] at C
 unfold whole_Parse.f
 exact Dec.val (fun _ => C) (Ev.bind P (Dec.no he (Ev.now _)))
/-- Whatever a text is: its digits' number, or why there is none. -/
theorem whole_Parse.upto_ (s : ByteArray) (n : Nat) (hn : n ≤ s.size) : (∃ p, p < n ∧ (∀ i, i < p → ∃ d, d < 10 ∧ bt s (i : Int) = ((48 + d : Nat) : Int)) ∧ ¬ (48 ≤ bt s (p : Int) ∧ bt s (p : Int) ≤ 57)) ∨ (∀ i, i < n → ∃ d, d < 10 ∧ bt s (i : Int) = ((48 + d : Nat) : Int)) := by
 induction n with
 | zero => exact .inr (fun i h => absurd h (by omega))
 | succ n ih =>
  rcases ih (by omega) with ⟨p, hp, h1, h2⟩ | h
  ·exact .inl ⟨p, by omega, h1, h2⟩
  ·by_cases hb : 48 ≤ bt s (n : Int) ∧ bt s (n : Int) ≤ 57
   ·refine .inr (fun i hi => ?_)
    by_cases e : i = n
    ·subst e
     exact ⟨(bt s (i : Int) - 48).toNat, by omega, by omega⟩
    ·exact h i (by omega)
   ·exact .inl ⟨n, by omega, h, hb⟩
theorem whole_Parse.digits {s : ByteArray} (h : ∀ i, i < s.size → ∃ d, d < 10 ∧ bt s (i : Int) = ((48 + d : Nat) : Int)) : ∃ l, Dec.Ds l ∧ s = Dec.tx l := by
 have key : ∀ b ∈ s.data.toList, ∃ d, d < 10 ∧ b.toNat = 48 + d := by
  intro b hb
  obtain ⟨i, hi, e⟩ := List.mem_iff_getElem.1 hb
  have hi' : i < s.size := by simpa using hi
  obtain ⟨d, hd, h1⟩ := h i hi'
  refine ⟨d, hd, ?_⟩
  unfold bt at h1
  rw [Int.toNat_natCast, dif_pos hi'] at h1
  have e2 : s[i]'hi' = b := by rw [← e]; rfl
  rw [e2] at h1
  omega
 refine ⟨(s.data.toList.map (fun b => b.toNat - 48)).reverse, ?_, ?_⟩
 ·intro x hx
  obtain ⟨b, hb, rfl⟩ := List.mem_map.1 (List.mem_reverse.1 hx)
  obtain ⟨d, hd, e⟩ := key b hb
  omega
 ·unfold Dec.tx
  rw [List.reverse_reverse, List.map_map]
  apply ByteArray.ext
  show s.data = (List.map (Dec.ch ∘ fun b => b.toNat - 48) s.data.toList).toArray
  have : List.map (Dec.ch ∘ fun b : UInt8 => b.toNat - 48) s.data.toList = s.data.toList := by
   refine (List.map_congr_left (fun b hb => ?_)).trans (List.map_id _)
   obtain ⟨d, hd, e⟩ := key b hb
   apply UInt8.toNat_inj.1
   show (Dec.ch (b.toNat - 48)).toNat = b.toNat
   rw [Dec.ch_nat (by omega)]
   omega
  rw [this]
theorem whole_Parse.any_ {s : ByteArray} (hs : s.size ≤ 500) : (∃ n K, K ≤ 500 ∧ n < 2 ^ (32 * K) ∧ Ev (fun k => nat_Parse.f k s) (Num.nd n, 0)) ∨ (∃ l e, e ≠ 0 ∧ Ev (fun k => nat_Parse.f k s) (l, e)) := by
 rcases whole_Parse.upto_ s s.size (Nat.le_refl _) with ⟨p, hp, hd, hb⟩ | hd
 ·exact .inr ⟨[], 2, by decide, nat_Parse.ev_bad (by omega) hp hd hb⟩
 ·obtain ⟨l, hl, rfl⟩ := whole_Parse.digits hd
  rw [Dec.tx_size] at hs
  have P := nat_Parse.ev_dig hl (by omega)
  by_cases h0 : l.length = 0
  ·rw [if_pos h0] at P
   exact .inr ⟨[], 2, by decide, P⟩
  ·rw [if_neg h0] at P
   by_cases h4 : 400 < l.length
   ·rw [if_pos h4] at P
    exact .inr ⟨[], 4, by decide, P⟩
   ·rw [if_neg h4] at P
    refine .inl ⟨_, l.length, hs, ?_, P⟩
    refine Nat.lt_of_lt_of_le (Dec.dv_lt hl) ?_
    rw [Nat.pow_mul]
    exact Nat.pow_le_pow_left (by decide) l.length
/-- A number's own text. -/
theorem whole_Parse.cut_tz (z : Int) : (if 0 < (Zn.tz z).size ∧ bt (Zn.tz z) 0 = 45 then ((Zn.tz z).extract 1 (Zn.tz z).size, true) else (Zn.tz z, false)) = (Dec.dec z.natAbs, decide (z < 0)) := by
 by_cases h : z < 0
 ·rw [if_pos ⟨Zn.tz_size_pos z, (Zn.tz_head z).2 h⟩, Zn.tz_neg h, Zn.minus_tail, decide_eq_true h]
 ·rw [if_neg (fun e => h ((Zn.tz_head z).1 e.2)), Zn.tz_pos h, decide_eq_false h]
theorem whole_Parse.ev_tz {z : Int} {K : Nat} (h : z.natAbs < 2 ^ (32 * K)) (hK1 : 1 ≤ K) (hK : K ≤ 40) : Ev (fun k => whole_Parse.f k (Zn.tz z)) ((Zn.zd z).1, (Zn.zd z).2, 0) := by
 have la := Dec.dc_len32 hK1 h
 have p0 := Dec.dc_pos z.natAbs
 have P0 := nat_Parse.ev_dig (Dec.Ds_dc z.natAbs) (by omega)
 rw [if_neg (by omega), if_neg (by omega), Dec.dv_dc] at P0
 have := whole_Parse.ev0 (whole_Parse.cut_tz z) h (by omega) P0
 rwa [Zn.zv_self] at this
set_option synthInstance.checkSynthOrder false in
open Lin in
set_option maxHeartbeats 4000000 in
instance whole_Parse.t {k : Nat} {a0 : ByteArray} {r : Bool × List Int × Int} [h : Ans (whole_Parse.f k a0) r] : Tl Try.prog 41 [.one (.val (.string a0))] (.tup [.agg [.val (.bool r.1), .row r.2.1], .one (.val (.int .i64 r.2.2))]) := by
 have h := h.out
 unfold whole_Parse.f at h
 repeat' (first | (replace h := Lin.bndK h) | (replace h := Lin.bnd h; obtain ⟨_, _, h⟩ := h) | split at h | cases h)
 all_goals exact ⟨Tells.go Try.func41 Try.ntmps41⟩
def bits_Len32.f (a0 : Int) : Option (Int) := if a0 ≥ 65536 then (if (a0 / 65536) ≥ 256 then (if 0 ≤ (((a0 / 65536) / 256) % 256) then (if (((a0 / 65536) / 256) % 256) < 256 then (some (wrap64 ((16 + 8) + (wrap64 (bt (⟨#[0, 1, 2, 2, 3, 3, 3, 3, 4, 4, 4, 4, 4, 4, 4, 4, 5, 5, 5, 5, 5, 5, 5, 5, 5, 5, 5, 5, 5, 5, 5, 5, 6, 6, 6, 6, 6, 6, 6, 6, 6, 6, 6, 6, 6, 6, 6, 6, 6, 6, 6, 6, 6, 6, 6, 6, 6, 6, 6, 6, 6, 6, 6, 6, 7, 7, 7, 7, 7, 7, 7, 7, 7, 7, 7, 7, 7, 7, 7, 7, 7, 7, 7, 7, 7, 7, 7, 7, 7, 7, 7, 7, 7, 7, 7, 7, 7, 7, 7, 7, 7, 7, 7, 7, 7, 7, 7, 7, 7, 7, 7, 7, 7, 7, 7, 7, 7, 7, 7, 7, 7, 7, 7, 7, 7, 7, 7, 7, 8, 8, 8, 8, 8, 8, 8, 8, 8, 8, 8, 8, 8, 8, 8, 8, 8, 8, 8, 8, 8, 8, 8, 8, 8, 8, 8, 8, 8, 8, 8, 8, 8, 8, 8, 8, 8, 8, 8, 8, 8, 8, 8, 8, 8, 8, 8, 8, 8, 8, 8, 8, 8, 8, 8, 8, 8, 8, 8, 8, 8, 8, 8, 8, 8, 8, 8, 8, 8, 8, 8, 8, 8, 8, 8, 8, 8, 8, 8, 8, 8, 8, 8, 8, 8, 8, 8, 8, 8, 8, 8, 8, 8, 8, 8, 8, 8, 8, 8, 8, 8, 8, 8, 8, 8, 8, 8, 8, 8, 8, 8, 8, 8, 8, 8, 8, 8, 8, 8, 8, 8, 8, 8, 8, 8, 8, 8, 8]⟩ : ByteArray) (((a0 / 65536) / 256) % 256)))))) else (none)) else (none)) else (if 0 ≤ ((a0 / 65536) % 256) then (if ((a0 / 65536) % 256) < 256 then (some (wrap64 (16 + (wrap64 (bt (⟨#[0, 1, 2, 2, 3, 3, 3, 3, 4, 4, 4, 4, 4, 4, 4, 4, 5, 5, 5, 5, 5, 5, 5, 5, 5, 5, 5, 5, 5, 5, 5, 5, 6, 6, 6, 6, 6, 6, 6, 6, 6, 6, 6, 6, 6, 6, 6, 6, 6, 6, 6, 6, 6, 6, 6, 6, 6, 6, 6, 6, 6, 6, 6, 6, 7, 7, 7, 7, 7, 7, 7, 7, 7, 7, 7, 7, 7, 7, 7, 7, 7, 7, 7, 7, 7, 7, 7, 7, 7, 7, 7, 7, 7, 7, 7, 7, 7, 7, 7, 7, 7, 7, 7, 7, 7, 7, 7, 7, 7, 7, 7, 7, 7, 7, 7, 7, 7, 7, 7, 7, 7, 7, 7, 7, 7, 7, 7, 7, 8, 8, 8, 8, 8, 8, 8, 8, 8, 8, 8, 8, 8, 8, 8, 8, 8, 8, 8, 8, 8, 8, 8, 8, 8, 8, 8, 8, 8, 8, 8, 8, 8, 8, 8, 8, 8, 8, 8, 8, 8, 8, 8, 8, 8, 8, 8, 8, 8, 8, 8, 8, 8, 8, 8, 8, 8, 8, 8, 8, 8, 8, 8, 8, 8, 8, 8, 8, 8, 8, 8, 8, 8, 8, 8, 8, 8, 8, 8, 8, 8, 8, 8, 8, 8, 8, 8, 8, 8, 8, 8, 8, 8, 8, 8, 8, 8, 8, 8, 8, 8, 8, 8, 8, 8, 8, 8, 8, 8, 8, 8, 8, 8, 8, 8, 8, 8, 8, 8, 8, 8, 8, 8, 8, 8, 8, 8, 8]⟩ : ByteArray) ((a0 / 65536) % 256)))))) else (none)) else (none))) else (if a0 ≥ 256 then (if 0 ≤ ((a0 / 256) % 256) then (if ((a0 / 256) % 256) < 256 then (some (wrap64 ((0 + 8) + (wrap64 (bt (⟨#[0, 1, 2, 2, 3, 3, 3, 3, 4, 4, 4, 4, 4, 4, 4, 4, 5, 5, 5, 5, 5, 5, 5, 5, 5, 5, 5, 5, 5, 5, 5, 5, 6, 6, 6, 6, 6, 6, 6, 6, 6, 6, 6, 6, 6, 6, 6, 6, 6, 6, 6, 6, 6, 6, 6, 6, 6, 6, 6, 6, 6, 6, 6, 6, 7, 7, 7, 7, 7, 7, 7, 7, 7, 7, 7, 7, 7, 7, 7, 7, 7, 7, 7, 7, 7, 7, 7, 7, 7, 7, 7, 7, 7, 7, 7, 7, 7, 7, 7, 7, 7, 7, 7, 7, 7, 7, 7, 7, 7, 7, 7, 7, 7, 7, 7, 7, 7, 7, 7, 7, 7, 7, 7, 7, 7, 7, 7, 7, 8, 8, 8, 8, 8, 8, 8, 8, 8, 8, 8, 8, 8, 8, 8, 8, 8, 8, 8, 8, 8, 8, 8, 8, 8, 8, 8, 8, 8, 8, 8, 8, 8, 8, 8, 8, 8, 8, 8, 8, 8, 8, 8, 8, 8, 8, 8, 8, 8, 8, 8, 8, 8, 8, 8, 8, 8, 8, 8, 8, 8, 8, 8, 8, 8, 8, 8, 8, 8, 8, 8, 8, 8, 8, 8, 8, 8, 8, 8, 8, 8, 8, 8, 8, 8, 8, 8, 8, 8, 8, 8, 8, 8, 8, 8, 8, 8, 8, 8, 8, 8, 8, 8, 8, 8, 8, 8, 8, 8, 8, 8, 8, 8, 8, 8, 8, 8, 8, 8, 8, 8, 8, 8, 8, 8, 8, 8, 8]⟩ : ByteArray) ((a0 / 256) % 256)))))) else (none)) else (none)) else (if 0 ≤ ((a0) % 256) then (if ((a0) % 256) < 256 then (some (wrap64 (0 + (wrap64 (bt (⟨#[0, 1, 2, 2, 3, 3, 3, 3, 4, 4, 4, 4, 4, 4, 4, 4, 5, 5, 5, 5, 5, 5, 5, 5, 5, 5, 5, 5, 5, 5, 5, 5, 6, 6, 6, 6, 6, 6, 6, 6, 6, 6, 6, 6, 6, 6, 6, 6, 6, 6, 6, 6, 6, 6, 6, 6, 6, 6, 6, 6, 6, 6, 6, 6, 7, 7, 7, 7, 7, 7, 7, 7, 7, 7, 7, 7, 7, 7, 7, 7, 7, 7, 7, 7, 7, 7, 7, 7, 7, 7, 7, 7, 7, 7, 7, 7, 7, 7, 7, 7, 7, 7, 7, 7, 7, 7, 7, 7, 7, 7, 7, 7, 7, 7, 7, 7, 7, 7, 7, 7, 7, 7, 7, 7, 7, 7, 7, 7, 8, 8, 8, 8, 8, 8, 8, 8, 8, 8, 8, 8, 8, 8, 8, 8, 8, 8, 8, 8, 8, 8, 8, 8, 8, 8, 8, 8, 8, 8, 8, 8, 8, 8, 8, 8, 8, 8, 8, 8, 8, 8, 8, 8, 8, 8, 8, 8, 8, 8, 8, 8, 8, 8, 8, 8, 8, 8, 8, 8, 8, 8, 8, 8, 8, 8, 8, 8, 8, 8, 8, 8, 8, 8, 8, 8, 8, 8, 8, 8, 8, 8, 8, 8, 8, 8, 8, 8, 8, 8, 8, 8, 8, 8, 8, 8, 8, 8, 8, 8, 8, 8, 8, 8, 8, 8, 8, 8, 8, 8, 8, 8, 8, 8, 8, 8, 8, 8, 8, 8, 8, 8, 8, 8, 8, 8, 8, 8]⟩ : ByteArray) ((a0) % 256)))))) else (none)) else (none)))
set_option maxHeartbeats 8000000 in
set_option maxRecDepth 100000 in
theorem bits_Len32.calls (a0 : Int) (r : Int) (w : World) (h : bits_Len32.f a0 = some r) :
  Calls Try.prog 76 #[.int .u32 a0] w fun e w' => e = .returned (.int .i64 r) ∧ Drawn0 w w' := by
 have H : (if a0 ≥ 65536 then (if (a0 / 65536) ≥ 256 then (if 0 ≤ (((a0 / 65536) / 256) % 256) then (if (((a0 / 65536) / 256) % 256) < 256 then (some (wrap64 ((16 + 8) + (wrap64 (bt (⟨#[0, 1, 2, 2, 3, 3, 3, 3, 4, 4, 4, 4, 4, 4, 4, 4, 5, 5, 5, 5, 5, 5, 5, 5, 5, 5, 5, 5, 5, 5, 5, 5, 6, 6, 6, 6, 6, 6, 6, 6, 6, 6, 6, 6, 6, 6, 6, 6, 6, 6, 6, 6, 6, 6, 6, 6, 6, 6, 6, 6, 6, 6, 6, 6, 7, 7, 7, 7, 7, 7, 7, 7, 7, 7, 7, 7, 7, 7, 7, 7, 7, 7, 7, 7, 7, 7, 7, 7, 7, 7, 7, 7, 7, 7, 7, 7, 7, 7, 7, 7, 7, 7, 7, 7, 7, 7, 7, 7, 7, 7, 7, 7, 7, 7, 7, 7, 7, 7, 7, 7, 7, 7, 7, 7, 7, 7, 7, 7, 8, 8, 8, 8, 8, 8, 8, 8, 8, 8, 8, 8, 8, 8, 8, 8, 8, 8, 8, 8, 8, 8, 8, 8, 8, 8, 8, 8, 8, 8, 8, 8, 8, 8, 8, 8, 8, 8, 8, 8, 8, 8, 8, 8, 8, 8, 8, 8, 8, 8, 8, 8, 8, 8, 8, 8, 8, 8, 8, 8, 8, 8, 8, 8, 8, 8, 8, 8, 8, 8, 8, 8, 8, 8, 8, 8, 8, 8, 8, 8, 8, 8, 8, 8, 8, 8, 8, 8, 8, 8, 8, 8, 8, 8, 8, 8, 8, 8, 8, 8, 8, 8, 8, 8, 8, 8, 8, 8, 8, 8, 8, 8, 8, 8, 8, 8, 8, 8, 8, 8, 8, 8, 8, 8, 8, 8, 8, 8]⟩ : ByteArray) (((a0 / 65536) / 256) % 256)))))) else (none)) else (none)) else (if 0 ≤ ((a0 / 65536) % 256) then (if ((a0 / 65536) % 256) < 256 then (some (wrap64 (16 + (wrap64 (bt (⟨#[0, 1, 2, 2, 3, 3, 3, 3, 4, 4, 4, 4, 4, 4, 4, 4, 5, 5, 5, 5, 5, 5, 5, 5, 5, 5, 5, 5, 5, 5, 5, 5, 6, 6, 6, 6, 6, 6, 6, 6, 6, 6, 6, 6, 6, 6, 6, 6, 6, 6, 6, 6, 6, 6, 6, 6, 6, 6, 6, 6, 6, 6, 6, 6, 7, 7, 7, 7, 7, 7, 7, 7, 7, 7, 7, 7, 7, 7, 7, 7, 7, 7, 7, 7, 7, 7, 7, 7, 7, 7, 7, 7, 7, 7, 7, 7, 7, 7, 7, 7, 7, 7, 7, 7, 7, 7, 7, 7, 7, 7, 7, 7, 7, 7, 7, 7, 7, 7, 7, 7, 7, 7, 7, 7, 7, 7, 7, 7, 8, 8, 8, 8, 8, 8, 8, 8, 8, 8, 8, 8, 8, 8, 8, 8, 8, 8, 8, 8, 8, 8, 8, 8, 8, 8, 8, 8, 8, 8, 8, 8, 8, 8, 8, 8, 8, 8, 8, 8, 8, 8, 8, 8, 8, 8, 8, 8, 8, 8, 8, 8, 8, 8, 8, 8, 8, 8, 8, 8, 8, 8, 8, 8, 8, 8, 8, 8, 8, 8, 8, 8, 8, 8, 8, 8, 8, 8, 8, 8, 8, 8, 8, 8, 8, 8, 8, 8, 8, 8, 8, 8, 8, 8, 8, 8, 8, 8, 8, 8, 8, 8, 8, 8, 8, 8, 8, 8, 8, 8, 8, 8, 8, 8, 8, 8, 8, 8, 8, 8, 8, 8, 8, 8, 8, 8, 8, 8]⟩ : ByteArray) ((a0 / 65536) % 256)))))) else (none)) else (none))) else (if a0 ≥ 256 then (if 0 ≤ ((a0 / 256) % 256) then (if ((a0 / 256) % 256) < 256 then (some (wrap64 ((0 + 8) + (wrap64 (bt (⟨#[0, 1, 2, 2, 3, 3, 3, 3, 4, 4, 4, 4, 4, 4, 4, 4, 5, 5, 5, 5, 5, 5, 5, 5, 5, 5, 5, 5, 5, 5, 5, 5, 6, 6, 6, 6, 6, 6, 6, 6, 6, 6, 6, 6, 6, 6, 6, 6, 6, 6, 6, 6, 6, 6, 6, 6, 6, 6, 6, 6, 6, 6, 6, 6, 7, 7, 7, 7, 7, 7, 7, 7, 7, 7, 7, 7, 7, 7, 7, 7, 7, 7, 7, 7, 7, 7, 7, 7, 7, 7, 7, 7, 7, 7, 7, 7, 7, 7, 7, 7, 7, 7, 7, 7, 7, 7, 7, 7, 7, 7, 7, 7, 7, 7, 7, 7, 7, 7, 7, 7, 7, 7, 7, 7, 7, 7, 7, 7, 8, 8, 8, 8, 8, 8, 8, 8, 8, 8, 8, 8, 8, 8, 8, 8, 8, 8, 8, 8, 8, 8, 8, 8, 8, 8, 8, 8, 8, 8, 8, 8, 8, 8, 8, 8, 8, 8, 8, 8, 8, 8, 8, 8, 8, 8, 8, 8, 8, 8, 8, 8, 8, 8, 8, 8, 8, 8, 8, 8, 8, 8, 8, 8, 8, 8, 8, 8, 8, 8, 8, 8, 8, 8, 8, 8, 8, 8, 8, 8, 8, 8, 8, 8, 8, 8, 8, 8, 8, 8, 8, 8, 8, 8, 8, 8, 8, 8, 8, 8, 8, 8, 8, 8, 8, 8, 8, 8, 8, 8, 8, 8, 8, 8, 8, 8, 8, 8, 8, 8, 8, 8, 8, 8, 8, 8, 8, 8]⟩ : ByteArray) ((a0 / 256) % 256)))))) else (none)) else (none)) else (if 0 ≤ ((a0) % 256) then (if ((a0) % 256) < 256 then (some (wrap64 (0 + (wrap64 (bt (⟨#[0, 1, 2, 2, 3, 3, 3, 3, 4, 4, 4, 4, 4, 4, 4, 4, 5, 5, 5, 5, 5, 5, 5, 5, 5, 5, 5, 5, 5, 5, 5, 5, 6, 6, 6, 6, 6, 6, 6, 6, 6, 6, 6, 6, 6, 6, 6, 6, 6, 6, 6, 6, 6, 6, 6, 6, 6, 6, 6, 6, 6, 6, 6, 6, 7, 7, 7, 7, 7, 7, 7, 7, 7, 7, 7, 7, 7, 7, 7, 7, 7, 7, 7, 7, 7, 7, 7, 7, 7, 7, 7, 7, 7, 7, 7, 7, 7, 7, 7, 7, 7, 7, 7, 7, 7, 7, 7, 7, 7, 7, 7, 7, 7, 7, 7, 7, 7, 7, 7, 7, 7, 7, 7, 7, 7, 7, 7, 7, 8, 8, 8, 8, 8, 8, 8, 8, 8, 8, 8, 8, 8, 8, 8, 8, 8, 8, 8, 8, 8, 8, 8, 8, 8, 8, 8, 8, 8, 8, 8, 8, 8, 8, 8, 8, 8, 8, 8, 8, 8, 8, 8, 8, 8, 8, 8, 8, 8, 8, 8, 8, 8, 8, 8, 8, 8, 8, 8, 8, 8, 8, 8, 8, 8, 8, 8, 8, 8, 8, 8, 8, 8, 8, 8, 8, 8, 8, 8, 8, 8, 8, 8, 8, 8, 8, 8, 8, 8, 8, 8, 8, 8, 8, 8, 8, 8, 8, 8, 8, 8, 8, 8, 8, 8, 8, 8, 8, 8, 8, 8, 8, 8, 8, 8, 8, 8, 8, 8, 8, 8, 8, 8, 8, 8, 8, 8, 8]⟩ : ByteArray) ((a0) % 256)))))) else (none)) else (none)))) = some r := h
 clear h
 by_cases c2 : a0 ≥ 65536
 ·rw [if_pos c2] at H
  have c2b0 : decide (65536 ≤ a0) = true := decide_eq_true c2
  clear c2
  by_cases c3 : (a0 / 65536) ≥ 256
  ·rw [if_pos c3] at H
   have c3b0 : decide (256 ≤ (a0 / 65536)) = true := decide_eq_true c3
   clear c3
   obtain ⟨ji4, hji4⟩ : ∃ j_ : Int, (((a0 / 65536) / 256) % 256) = j_ := ⟨_, rfl⟩
   replace H : (if 0 ≤ (ji4) then (if (ji4) < 256 then (some (wrap64 ((16 + 8) + (wrap64 (bt (⟨#[0, 1, 2, 2, 3, 3, 3, 3, 4, 4, 4, 4, 4, 4, 4, 4, 5, 5, 5, 5, 5, 5, 5, 5, 5, 5, 5, 5, 5, 5, 5, 5, 6, 6, 6, 6, 6, 6, 6, 6, 6, 6, 6, 6, 6, 6, 6, 6, 6, 6, 6, 6, 6, 6, 6, 6, 6, 6, 6, 6, 6, 6, 6, 6, 7, 7, 7, 7, 7, 7, 7, 7, 7, 7, 7, 7, 7, 7, 7, 7, 7, 7, 7, 7, 7, 7, 7, 7, 7, 7, 7, 7, 7, 7, 7, 7, 7, 7, 7, 7, 7, 7, 7, 7, 7, 7, 7, 7, 7, 7, 7, 7, 7, 7, 7, 7, 7, 7, 7, 7, 7, 7, 7, 7, 7, 7, 7, 7, 8, 8, 8, 8, 8, 8, 8, 8, 8, 8, 8, 8, 8, 8, 8, 8, 8, 8, 8, 8, 8, 8, 8, 8, 8, 8, 8, 8, 8, 8, 8, 8, 8, 8, 8, 8, 8, 8, 8, 8, 8, 8, 8, 8, 8, 8, 8, 8, 8, 8, 8, 8, 8, 8, 8, 8, 8, 8, 8, 8, 8, 8, 8, 8, 8, 8, 8, 8, 8, 8, 8, 8, 8, 8, 8, 8, 8, 8, 8, 8, 8, 8, 8, 8, 8, 8, 8, 8, 8, 8, 8, 8, 8, 8, 8, 8, 8, 8, 8, 8, 8, 8, 8, 8, 8, 8, 8, 8, 8, 8, 8, 8, 8, 8, 8, 8, 8, 8, 8, 8, 8, 8, 8, 8, 8, 8, 8, 8]⟩ : ByteArray) (ji4)))))) else (none)) else (none)) = some r := by first | (rw [hji4] at H; exact H) | (simp only [hji4] at H ⊢; exact H)
   by_cases c5 : 0 ≤ (ji4)
   ·rw [if_pos c5] at H
    have c5b0 : decide (0 ≤ (ji4)) = true := decide_eq_true c5
    clear c5
    by_cases c6 : (ji4) < 256
    ·rw [if_pos c6] at H
     have c6b0 : decide ((ji4) < 256) = true := decide_eq_true c6
     clear c6
     obtain rfl := Option.some.inj H
     have p7 : 0 ≤ ((ji4) : Int) := of_decide_eq_true (by first | (with_reducible assumption) | assumption)
     have q7 : (ji4) < (256 : Int) := of_decide_eq_true (by first | (with_reducible assumption) | assumption)
     have hx7 := bt_at (⟨#[0, 1, 2, 2, 3, 3, 3, 3, 4, 4, 4, 4, 4, 4, 4, 4, 5, 5, 5, 5, 5, 5, 5, 5, 5, 5, 5, 5, 5, 5, 5, 5, 6, 6, 6, 6, 6, 6, 6, 6, 6, 6, 6, 6, 6, 6, 6, 6, 6, 6, 6, 6, 6, 6, 6, 6, 6, 6, 6, 6, 6, 6, 6, 6, 7, 7, 7, 7, 7, 7, 7, 7, 7, 7, 7, 7, 7, 7, 7, 7, 7, 7, 7, 7, 7, 7, 7, 7, 7, 7, 7, 7, 7, 7, 7, 7, 7, 7, 7, 7, 7, 7, 7, 7, 7, 7, 7, 7, 7, 7, 7, 7, 7, 7, 7, 7, 7, 7, 7, 7, 7, 7, 7, 7, 7, 7, 7, 7, 8, 8, 8, 8, 8, 8, 8, 8, 8, 8, 8, 8, 8, 8, 8, 8, 8, 8, 8, 8, 8, 8, 8, 8, 8, 8, 8, 8, 8, 8, 8, 8, 8, 8, 8, 8, 8, 8, 8, 8, 8, 8, 8, 8, 8, 8, 8, 8, 8, 8, 8, 8, 8, 8, 8, 8, 8, 8, 8, 8, 8, 8, 8, 8, 8, 8, 8, 8, 8, 8, 8, 8, 8, 8, 8, 8, 8, 8, 8, 8, 8, 8, 8, 8, 8, 8, 8, 8, 8, 8, 8, 8, 8, 8, 8, 8, 8, 8, 8, 8, 8, 8, 8, 8, 8, 8, 8, 8, 8, 8, 8, 8, 8, 8, 8, 8, 8, 8, 8, 8, 8, 8, 8, 8, 8, 8, 8, 8]⟩ : ByteArray) (ji4)
     replace p7 := eq_true p7
     replace q7 := eq_true q7
     go_enter Try.func76, Try.ntmps76
     go_wp2
     go_ret
     exact ⟨by first | rfl | (simp; done) | (simp only [← hji4] <;> (first | rfl | simp)) | (simp [*]; done), by repeat (first | exact Drawn0.refl _ | apply Drawn0.step)⟩
    ·rw [if_neg c6] at H
     exact absurd H (by simp)
   ·rw [if_neg c5] at H
    exact absurd H (by simp)
  ·rw [if_neg c3] at H
   have c3b0 : decide (256 ≤ (a0 / 65536)) = false := decide_eq_false c3
   clear c3
   obtain ⟨ji8, hji8⟩ : ∃ j_ : Int, ((a0 / 65536) % 256) = j_ := ⟨_, rfl⟩
   replace H : (if 0 ≤ (ji8) then (if (ji8) < 256 then (some (wrap64 (16 + (wrap64 (bt (⟨#[0, 1, 2, 2, 3, 3, 3, 3, 4, 4, 4, 4, 4, 4, 4, 4, 5, 5, 5, 5, 5, 5, 5, 5, 5, 5, 5, 5, 5, 5, 5, 5, 6, 6, 6, 6, 6, 6, 6, 6, 6, 6, 6, 6, 6, 6, 6, 6, 6, 6, 6, 6, 6, 6, 6, 6, 6, 6, 6, 6, 6, 6, 6, 6, 7, 7, 7, 7, 7, 7, 7, 7, 7, 7, 7, 7, 7, 7, 7, 7, 7, 7, 7, 7, 7, 7, 7, 7, 7, 7, 7, 7, 7, 7, 7, 7, 7, 7, 7, 7, 7, 7, 7, 7, 7, 7, 7, 7, 7, 7, 7, 7, 7, 7, 7, 7, 7, 7, 7, 7, 7, 7, 7, 7, 7, 7, 7, 7, 8, 8, 8, 8, 8, 8, 8, 8, 8, 8, 8, 8, 8, 8, 8, 8, 8, 8, 8, 8, 8, 8, 8, 8, 8, 8, 8, 8, 8, 8, 8, 8, 8, 8, 8, 8, 8, 8, 8, 8, 8, 8, 8, 8, 8, 8, 8, 8, 8, 8, 8, 8, 8, 8, 8, 8, 8, 8, 8, 8, 8, 8, 8, 8, 8, 8, 8, 8, 8, 8, 8, 8, 8, 8, 8, 8, 8, 8, 8, 8, 8, 8, 8, 8, 8, 8, 8, 8, 8, 8, 8, 8, 8, 8, 8, 8, 8, 8, 8, 8, 8, 8, 8, 8, 8, 8, 8, 8, 8, 8, 8, 8, 8, 8, 8, 8, 8, 8, 8, 8, 8, 8, 8, 8, 8, 8, 8, 8]⟩ : ByteArray) (ji8)))))) else (none)) else (none)) = some r := by first | (rw [hji8] at H; exact H) | (simp only [hji8] at H ⊢; exact H)
   by_cases c9 : 0 ≤ (ji8)
   ·rw [if_pos c9] at H
    have c9b0 : decide (0 ≤ (ji8)) = true := decide_eq_true c9
    clear c9
    by_cases c10 : (ji8) < 256
    ·rw [if_pos c10] at H
     have c10b0 : decide ((ji8) < 256) = true := decide_eq_true c10
     clear c10
     obtain rfl := Option.some.inj H
     have p11 : 0 ≤ ((ji8) : Int) := of_decide_eq_true (by first | (with_reducible assumption) | assumption)
     have q11 : (ji8) < (256 : Int) := of_decide_eq_true (by first | (with_reducible assumption) | assumption)
     have hx11 := bt_at (⟨#[0, 1, 2, 2, 3, 3, 3, 3, 4, 4, 4, 4, 4, 4, 4, 4, 5, 5, 5, 5, 5, 5, 5, 5, 5, 5, 5, 5, 5, 5, 5, 5, 6, 6, 6, 6, 6, 6, 6, 6, 6, 6, 6, 6, 6, 6, 6, 6, 6, 6, 6, 6, 6, 6, 6, 6, 6, 6, 6, 6, 6, 6, 6, 6, 7, 7, 7, 7, 7, 7, 7, 7, 7, 7, 7, 7, 7, 7, 7, 7, 7, 7, 7, 7, 7, 7, 7, 7, 7, 7, 7, 7, 7, 7, 7, 7, 7, 7, 7, 7, 7, 7, 7, 7, 7, 7, 7, 7, 7, 7, 7, 7, 7, 7, 7, 7, 7, 7, 7, 7, 7, 7, 7, 7, 7, 7, 7, 7, 8, 8, 8, 8, 8, 8, 8, 8, 8, 8, 8, 8, 8, 8, 8, 8, 8, 8, 8, 8, 8, 8, 8, 8, 8, 8, 8, 8, 8, 8, 8, 8, 8, 8, 8, 8, 8, 8, 8, 8, 8, 8, 8, 8, 8, 8, 8, 8, 8, 8, 8, 8, 8, 8, 8, 8, 8, 8, 8, 8, 8, 8, 8, 8, 8, 8, 8, 8, 8, 8, 8, 8, 8, 8, 8, 8, 8, 8, 8, 8, 8, 8, 8, 8, 8, 8, 8, 8, 8, 8, 8, 8, 8, 8, 8, 8, 8, 8, 8, 8, 8, 8, 8, 8, 8, 8, 8, 8, 8, 8, 8, 8, 8, 8, 8, 8, 8, 8, 8, 8, 8, 8, 8, 8, 8, 8, 8, 8]⟩ : ByteArray) (ji8)
     replace p11 := eq_true p11
     replace q11 := eq_true q11
     go_enter Try.func76, Try.ntmps76
     go_wp2
     go_ret
     exact ⟨by first | rfl | (simp; done) | (simp only [← hji8] <;> (first | rfl | simp)) | (simp [*]; done), by repeat (first | exact Drawn0.refl _ | apply Drawn0.step)⟩
    ·rw [if_neg c10] at H
     exact absurd H (by simp)
   ·rw [if_neg c9] at H
    exact absurd H (by simp)
 ·rw [if_neg c2] at H
  have c2b0 : decide (65536 ≤ a0) = false := decide_eq_false c2
  clear c2
  by_cases c12 : a0 ≥ 256
  ·rw [if_pos c12] at H
   have c12b0 : decide (256 ≤ a0) = true := decide_eq_true c12
   clear c12
   obtain ⟨ji13, hji13⟩ : ∃ j_ : Int, ((a0 / 256) % 256) = j_ := ⟨_, rfl⟩
   replace H : (if 0 ≤ (ji13) then (if (ji13) < 256 then (some (wrap64 ((0 + 8) + (wrap64 (bt (⟨#[0, 1, 2, 2, 3, 3, 3, 3, 4, 4, 4, 4, 4, 4, 4, 4, 5, 5, 5, 5, 5, 5, 5, 5, 5, 5, 5, 5, 5, 5, 5, 5, 6, 6, 6, 6, 6, 6, 6, 6, 6, 6, 6, 6, 6, 6, 6, 6, 6, 6, 6, 6, 6, 6, 6, 6, 6, 6, 6, 6, 6, 6, 6, 6, 7, 7, 7, 7, 7, 7, 7, 7, 7, 7, 7, 7, 7, 7, 7, 7, 7, 7, 7, 7, 7, 7, 7, 7, 7, 7, 7, 7, 7, 7, 7, 7, 7, 7, 7, 7, 7, 7, 7, 7, 7, 7, 7, 7, 7, 7, 7, 7, 7, 7, 7, 7, 7, 7, 7, 7, 7, 7, 7, 7, 7, 7, 7, 7, 8, 8, 8, 8, 8, 8, 8, 8, 8, 8, 8, 8, 8, 8, 8, 8, 8, 8, 8, 8, 8, 8, 8, 8, 8, 8, 8, 8, 8, 8, 8, 8, 8, 8, 8, 8, 8, 8, 8, 8, 8, 8, 8, 8, 8, 8, 8, 8, 8, 8, 8, 8, 8, 8, 8, 8, 8, 8, 8, 8, 8, 8, 8, 8, 8, 8, 8, 8, 8, 8, 8, 8, 8, 8, 8, 8, 8, 8, 8, 8, 8, 8, 8, 8, 8, 8, 8, 8, 8, 8, 8, 8, 8, 8, 8, 8, 8, 8, 8, 8, 8, 8, 8, 8, 8, 8, 8, 8, 8, 8, 8, 8, 8, 8, 8, 8, 8, 8, 8, 8, 8, 8, 8, 8, 8, 8, 8, 8]⟩ : ByteArray) (ji13)))))) else (none)) else (none)) = some r := by first | (rw [hji13] at H; exact H) | (simp only [hji13] at H ⊢; exact H)
   by_cases c14 : 0 ≤ (ji13)
   ·rw [if_pos c14] at H
    have c14b0 : decide (0 ≤ (ji13)) = true := decide_eq_true c14
    clear c14
    by_cases c15 : (ji13) < 256
    ·rw [if_pos c15] at H
     have c15b0 : decide ((ji13) < 256) = true := decide_eq_true c15
     clear c15
     obtain rfl := Option.some.inj H
     have p16 : 0 ≤ ((ji13) : Int) := of_decide_eq_true (by first | (with_reducible assumption) | assumption)
     have q16 : (ji13) < (256 : Int) := of_decide_eq_true (by first | (with_reducible assumption) | assumption)
     have hx16 := bt_at (⟨#[0, 1, 2, 2, 3, 3, 3, 3, 4, 4, 4, 4, 4, 4, 4, 4, 5, 5, 5, 5, 5, 5, 5, 5, 5, 5, 5, 5, 5, 5, 5, 5, 6, 6, 6, 6, 6, 6, 6, 6, 6, 6, 6, 6, 6, 6, 6, 6, 6, 6, 6, 6, 6, 6, 6, 6, 6, 6, 6, 6, 6, 6, 6, 6, 7, 7, 7, 7, 7, 7, 7, 7, 7, 7, 7, 7, 7, 7, 7, 7, 7, 7, 7, 7, 7, 7, 7, 7, 7, 7, 7, 7, 7, 7, 7, 7, 7, 7, 7, 7, 7, 7, 7, 7, 7, 7, 7, 7, 7, 7, 7, 7, 7, 7, 7, 7, 7, 7, 7, 7, 7, 7, 7, 7, 7, 7, 7, 7, 8, 8, 8, 8, 8, 8, 8, 8, 8, 8, 8, 8, 8, 8, 8, 8, 8, 8, 8, 8, 8, 8, 8, 8, 8, 8, 8, 8, 8, 8, 8, 8, 8, 8, 8, 8, 8, 8, 8, 8, 8, 8, 8, 8, 8, 8, 8, 8, 8, 8, 8, 8, 8, 8, 8, 8, 8, 8, 8, 8, 8, 8, 8, 8, 8, 8, 8, 8, 8, 8, 8, 8, 8, 8, 8, 8, 8, 8, 8, 8, 8, 8, 8, 8, 8, 8, 8, 8, 8, 8, 8, 8, 8, 8, 8, 8, 8, 8, 8, 8, 8, 8, 8, 8, 8, 8, 8, 8, 8, 8, 8, 8, 8, 8, 8, 8, 8, 8, 8, 8, 8, 8, 8, 8, 8, 8, 8, 8]⟩ : ByteArray) (ji13)
     replace p16 := eq_true p16
     replace q16 := eq_true q16
     go_enter Try.func76, Try.ntmps76
     go_wp2
     go_ret
     exact ⟨by first | rfl | (simp; done) | (simp only [← hji13] <;> (first | rfl | simp)) | (simp [*]; done), by repeat (first | exact Drawn0.refl _ | apply Drawn0.step)⟩
    ·rw [if_neg c15] at H
     exact absurd H (by simp)
   ·rw [if_neg c14] at H
    exact absurd H (by simp)
  ·rw [if_neg c12] at H
   have c12b0 : decide (256 ≤ a0) = false := decide_eq_false c12
   clear c12
   obtain ⟨ji17, hji17⟩ : ∃ j_ : Int, ((a0) % 256) = j_ := ⟨_, rfl⟩
   replace H : (if 0 ≤ (ji17) then (if (ji17) < 256 then (some (wrap64 (0 + (wrap64 (bt (⟨#[0, 1, 2, 2, 3, 3, 3, 3, 4, 4, 4, 4, 4, 4, 4, 4, 5, 5, 5, 5, 5, 5, 5, 5, 5, 5, 5, 5, 5, 5, 5, 5, 6, 6, 6, 6, 6, 6, 6, 6, 6, 6, 6, 6, 6, 6, 6, 6, 6, 6, 6, 6, 6, 6, 6, 6, 6, 6, 6, 6, 6, 6, 6, 6, 7, 7, 7, 7, 7, 7, 7, 7, 7, 7, 7, 7, 7, 7, 7, 7, 7, 7, 7, 7, 7, 7, 7, 7, 7, 7, 7, 7, 7, 7, 7, 7, 7, 7, 7, 7, 7, 7, 7, 7, 7, 7, 7, 7, 7, 7, 7, 7, 7, 7, 7, 7, 7, 7, 7, 7, 7, 7, 7, 7, 7, 7, 7, 7, 8, 8, 8, 8, 8, 8, 8, 8, 8, 8, 8, 8, 8, 8, 8, 8, 8, 8, 8, 8, 8, 8, 8, 8, 8, 8, 8, 8, 8, 8, 8, 8, 8, 8, 8, 8, 8, 8, 8, 8, 8, 8, 8, 8, 8, 8, 8, 8, 8, 8, 8, 8, 8, 8, 8, 8, 8, 8, 8, 8, 8, 8, 8, 8, 8, 8, 8, 8, 8, 8, 8, 8, 8, 8, 8, 8, 8, 8, 8, 8, 8, 8, 8, 8, 8, 8, 8, 8, 8, 8, 8, 8, 8, 8, 8, 8, 8, 8, 8, 8, 8, 8, 8, 8, 8, 8, 8, 8, 8, 8, 8, 8, 8, 8, 8, 8, 8, 8, 8, 8, 8, 8, 8, 8, 8, 8, 8, 8]⟩ : ByteArray) (ji17)))))) else (none)) else (none)) = some r := by first | (rw [hji17] at H; exact H) | (simp only [hji17] at H ⊢; exact H)
   by_cases c18 : 0 ≤ (ji17)
   ·rw [if_pos c18] at H
    have c18b0 : decide (0 ≤ (ji17)) = true := decide_eq_true c18
    clear c18
    by_cases c19 : (ji17) < 256
    ·rw [if_pos c19] at H
     have c19b0 : decide ((ji17) < 256) = true := decide_eq_true c19
     clear c19
     obtain rfl := Option.some.inj H
     have p20 : 0 ≤ ((ji17) : Int) := of_decide_eq_true (by first | (with_reducible assumption) | assumption)
     have q20 : (ji17) < (256 : Int) := of_decide_eq_true (by first | (with_reducible assumption) | assumption)
     have hx20 := bt_at (⟨#[0, 1, 2, 2, 3, 3, 3, 3, 4, 4, 4, 4, 4, 4, 4, 4, 5, 5, 5, 5, 5, 5, 5, 5, 5, 5, 5, 5, 5, 5, 5, 5, 6, 6, 6, 6, 6, 6, 6, 6, 6, 6, 6, 6, 6, 6, 6, 6, 6, 6, 6, 6, 6, 6, 6, 6, 6, 6, 6, 6, 6, 6, 6, 6, 7, 7, 7, 7, 7, 7, 7, 7, 7, 7, 7, 7, 7, 7, 7, 7, 7, 7, 7, 7, 7, 7, 7, 7, 7, 7, 7, 7, 7, 7, 7, 7, 7, 7, 7, 7, 7, 7, 7, 7, 7, 7, 7, 7, 7, 7, 7, 7, 7, 7, 7, 7, 7, 7, 7, 7, 7, 7, 7, 7, 7, 7, 7, 7, 8, 8, 8, 8, 8, 8, 8, 8, 8, 8, 8, 8, 8, 8, 8, 8, 8, 8, 8, 8, 8, 8, 8, 8, 8, 8, 8, 8, 8, 8, 8, 8, 8, 8, 8, 8, 8, 8, 8, 8, 8, 8, 8, 8, 8, 8, 8, 8, 8, 8, 8, 8, 8, 8, 8, 8, 8, 8, 8, 8, 8, 8, 8, 8, 8, 8, 8, 8, 8, 8, 8, 8, 8, 8, 8, 8, 8, 8, 8, 8, 8, 8, 8, 8, 8, 8, 8, 8, 8, 8, 8, 8, 8, 8, 8, 8, 8, 8, 8, 8, 8, 8, 8, 8, 8, 8, 8, 8, 8, 8, 8, 8, 8, 8, 8, 8, 8, 8, 8, 8, 8, 8, 8, 8, 8, 8, 8, 8]⟩ : ByteArray) (ji17)
     replace p20 := eq_true p20
     replace q20 := eq_true q20
     go_enter Try.func76, Try.ntmps76
     go_wp2
     go_ret
     exact ⟨by first | rfl | (simp; done) | (simp only [← hji17] <;> (first | rfl | simp)) | (simp [*]; done), by repeat (first | exact Drawn0.refl _ | apply Drawn0.step)⟩
    ·rw [if_neg c19] at H
     exact absurd H (by simp)
   ·rw [if_neg c18] at H
    exact absurd H (by simp)

theorem bits_Len32.table : ∀ i : Nat, i < 256 → i < 2 ^ (bt (⟨#[0, 1, 2, 2, 3, 3, 3, 3, 4, 4, 4, 4, 4, 4, 4, 4, 5, 5, 5, 5, 5, 5, 5, 5, 5, 5, 5, 5, 5, 5, 5, 5, 6, 6, 6, 6, 6, 6, 6, 6, 6, 6, 6, 6, 6, 6, 6, 6, 6, 6, 6, 6, 6, 6, 6, 6, 6, 6, 6, 6, 6, 6, 6, 6, 7, 7, 7, 7, 7, 7, 7, 7, 7, 7, 7, 7, 7, 7, 7, 7, 7, 7, 7, 7, 7, 7, 7, 7, 7, 7, 7, 7, 7, 7, 7, 7, 7, 7, 7, 7, 7, 7, 7, 7, 7, 7, 7, 7, 7, 7, 7, 7, 7, 7, 7, 7, 7, 7, 7, 7, 7, 7, 7, 7, 7, 7, 7, 7, 8, 8, 8, 8, 8, 8, 8, 8, 8, 8, 8, 8, 8, 8, 8, 8, 8, 8, 8, 8, 8, 8, 8, 8, 8, 8, 8, 8, 8, 8, 8, 8, 8, 8, 8, 8, 8, 8, 8, 8, 8, 8, 8, 8, 8, 8, 8, 8, 8, 8, 8, 8, 8, 8, 8, 8, 8, 8, 8, 8, 8, 8, 8, 8, 8, 8, 8, 8, 8, 8, 8, 8, 8, 8, 8, 8, 8, 8, 8, 8, 8, 8, 8, 8, 8, 8, 8, 8, 8, 8, 8, 8, 8, 8, 8, 8, 8, 8, 8, 8, 8, 8, 8, 8, 8, 8, 8, 8, 8, 8, 8, 8, 8, 8, 8, 8, 8, 8, 8, 8, 8, 8, 8, 8, 8, 8, 8, 8]⟩ : ByteArray) (i : Int)).toNat ∧ (i ≠ 0 → 1 ≤ (bt (⟨#[0, 1, 2, 2, 3, 3, 3, 3, 4, 4, 4, 4, 4, 4, 4, 4, 5, 5, 5, 5, 5, 5, 5, 5, 5, 5, 5, 5, 5, 5, 5, 5, 6, 6, 6, 6, 6, 6, 6, 6, 6, 6, 6, 6, 6, 6, 6, 6, 6, 6, 6, 6, 6, 6, 6, 6, 6, 6, 6, 6, 6, 6, 6, 6, 7, 7, 7, 7, 7, 7, 7, 7, 7, 7, 7, 7, 7, 7, 7, 7, 7, 7, 7, 7, 7, 7, 7, 7, 7, 7, 7, 7, 7, 7, 7, 7, 7, 7, 7, 7, 7, 7, 7, 7, 7, 7, 7, 7, 7, 7, 7, 7, 7, 7, 7, 7, 7, 7, 7, 7, 7, 7, 7, 7, 7, 7, 7, 7, 8, 8, 8, 8, 8, 8, 8, 8, 8, 8, 8, 8, 8, 8, 8, 8, 8, 8, 8, 8, 8, 8, 8, 8, 8, 8, 8, 8, 8, 8, 8, 8, 8, 8, 8, 8, 8, 8, 8, 8, 8, 8, 8, 8, 8, 8, 8, 8, 8, 8, 8, 8, 8, 8, 8, 8, 8, 8, 8, 8, 8, 8, 8, 8, 8, 8, 8, 8, 8, 8, 8, 8, 8, 8, 8, 8, 8, 8, 8, 8, 8, 8, 8, 8, 8, 8, 8, 8, 8, 8, 8, 8, 8, 8, 8, 8, 8, 8, 8, 8, 8, 8, 8, 8, 8, 8, 8, 8, 8, 8, 8, 8, 8, 8, 8, 8, 8, 8, 8, 8, 8, 8, 8, 8, 8, 8, 8, 8]⟩ : ByteArray) (i : Int)).toNat ∧ 2 ^ ((bt (⟨#[0, 1, 2, 2, 3, 3, 3, 3, 4, 4, 4, 4, 4, 4, 4, 4, 5, 5, 5, 5, 5, 5, 5, 5, 5, 5, 5, 5, 5, 5, 5, 5, 6, 6, 6, 6, 6, 6, 6, 6, 6, 6, 6, 6, 6, 6, 6, 6, 6, 6, 6, 6, 6, 6, 6, 6, 6, 6, 6, 6, 6, 6, 6, 6, 7, 7, 7, 7, 7, 7, 7, 7, 7, 7, 7, 7, 7, 7, 7, 7, 7, 7, 7, 7, 7, 7, 7, 7, 7, 7, 7, 7, 7, 7, 7, 7, 7, 7, 7, 7, 7, 7, 7, 7, 7, 7, 7, 7, 7, 7, 7, 7, 7, 7, 7, 7, 7, 7, 7, 7, 7, 7, 7, 7, 7, 7, 7, 7, 8, 8, 8, 8, 8, 8, 8, 8, 8, 8, 8, 8, 8, 8, 8, 8, 8, 8, 8, 8, 8, 8, 8, 8, 8, 8, 8, 8, 8, 8, 8, 8, 8, 8, 8, 8, 8, 8, 8, 8, 8, 8, 8, 8, 8, 8, 8, 8, 8, 8, 8, 8, 8, 8, 8, 8, 8, 8, 8, 8, 8, 8, 8, 8, 8, 8, 8, 8, 8, 8, 8, 8, 8, 8, 8, 8, 8, 8, 8, 8, 8, 8, 8, 8, 8, 8, 8, 8, 8, 8, 8, 8, 8, 8, 8, 8, 8, 8, 8, 8, 8, 8, 8, 8, 8, 8, 8, 8, 8, 8, 8, 8, 8, 8, 8, 8, 8, 8, 8, 8, 8, 8, 8, 8, 8, 8, 8, 8]⟩ : ByteArray) (i : Int)).toNat - 1) ≤ i) := by decide +kernel
theorem bits_Len32.zero : bt (⟨#[0, 1, 2, 2, 3, 3, 3, 3, 4, 4, 4, 4, 4, 4, 4, 4, 5, 5, 5, 5, 5, 5, 5, 5, 5, 5, 5, 5, 5, 5, 5, 5, 6, 6, 6, 6, 6, 6, 6, 6, 6, 6, 6, 6, 6, 6, 6, 6, 6, 6, 6, 6, 6, 6, 6, 6, 6, 6, 6, 6, 6, 6, 6, 6, 7, 7, 7, 7, 7, 7, 7, 7, 7, 7, 7, 7, 7, 7, 7, 7, 7, 7, 7, 7, 7, 7, 7, 7, 7, 7, 7, 7, 7, 7, 7, 7, 7, 7, 7, 7, 7, 7, 7, 7, 7, 7, 7, 7, 7, 7, 7, 7, 7, 7, 7, 7, 7, 7, 7, 7, 7, 7, 7, 7, 7, 7, 7, 7, 8, 8, 8, 8, 8, 8, 8, 8, 8, 8, 8, 8, 8, 8, 8, 8, 8, 8, 8, 8, 8, 8, 8, 8, 8, 8, 8, 8, 8, 8, 8, 8, 8, 8, 8, 8, 8, 8, 8, 8, 8, 8, 8, 8, 8, 8, 8, 8, 8, 8, 8, 8, 8, 8, 8, 8, 8, 8, 8, 8, 8, 8, 8, 8, 8, 8, 8, 8, 8, 8, 8, 8, 8, 8, 8, 8, 8, 8, 8, 8, 8, 8, 8, 8, 8, 8, 8, 8, 8, 8, 8, 8, 8, 8, 8, 8, 8, 8, 8, 8, 8, 8, 8, 8, 8, 8, 8, 8, 8, 8, 8, 8, 8, 8, 8, 8, 8, 8, 8, 8, 8, 8, 8, 8, 8, 8, 8, 8]⟩ : ByteArray) ((0 : Nat) : Int) = ((0 : Nat) : Int) := by decide +kernel
theorem bits_Len32.at_ {i : Nat} (h : i < 256) : bt (⟨#[0, 1, 2, 2, 3, 3, 3, 3, 4, 4, 4, 4, 4, 4, 4, 4, 5, 5, 5, 5, 5, 5, 5, 5, 5, 5, 5, 5, 5, 5, 5, 5, 6, 6, 6, 6, 6, 6, 6, 6, 6, 6, 6, 6, 6, 6, 6, 6, 6, 6, 6, 6, 6, 6, 6, 6, 6, 6, 6, 6, 6, 6, 6, 6, 7, 7, 7, 7, 7, 7, 7, 7, 7, 7, 7, 7, 7, 7, 7, 7, 7, 7, 7, 7, 7, 7, 7, 7, 7, 7, 7, 7, 7, 7, 7, 7, 7, 7, 7, 7, 7, 7, 7, 7, 7, 7, 7, 7, 7, 7, 7, 7, 7, 7, 7, 7, 7, 7, 7, 7, 7, 7, 7, 7, 7, 7, 7, 7, 8, 8, 8, 8, 8, 8, 8, 8, 8, 8, 8, 8, 8, 8, 8, 8, 8, 8, 8, 8, 8, 8, 8, 8, 8, 8, 8, 8, 8, 8, 8, 8, 8, 8, 8, 8, 8, 8, 8, 8, 8, 8, 8, 8, 8, 8, 8, 8, 8, 8, 8, 8, 8, 8, 8, 8, 8, 8, 8, 8, 8, 8, 8, 8, 8, 8, 8, 8, 8, 8, 8, 8, 8, 8, 8, 8, 8, 8, 8, 8, 8, 8, 8, 8, 8, 8, 8, 8, 8, 8, 8, 8, 8, 8, 8, 8, 8, 8, 8, 8, 8, 8, 8, 8, 8, 8, 8, 8, 8, 8, 8, 8, 8, 8, 8, 8, 8, 8, 8, 8, 8, 8, 8, 8, 8, 8, 8, 8]⟩ : ByteArray) (i : Int) = ((Num.blen i : Nat) : Int) := by
 obtain ⟨h1, h2⟩ := bits_Len32.table i h
 have h3 := (bt_range (⟨#[0, 1, 2, 2, 3, 3, 3, 3, 4, 4, 4, 4, 4, 4, 4, 4, 5, 5, 5, 5, 5, 5, 5, 5, 5, 5, 5, 5, 5, 5, 5, 5, 6, 6, 6, 6, 6, 6, 6, 6, 6, 6, 6, 6, 6, 6, 6, 6, 6, 6, 6, 6, 6, 6, 6, 6, 6, 6, 6, 6, 6, 6, 6, 6, 7, 7, 7, 7, 7, 7, 7, 7, 7, 7, 7, 7, 7, 7, 7, 7, 7, 7, 7, 7, 7, 7, 7, 7, 7, 7, 7, 7, 7, 7, 7, 7, 7, 7, 7, 7, 7, 7, 7, 7, 7, 7, 7, 7, 7, 7, 7, 7, 7, 7, 7, 7, 7, 7, 7, 7, 7, 7, 7, 7, 7, 7, 7, 7, 8, 8, 8, 8, 8, 8, 8, 8, 8, 8, 8, 8, 8, 8, 8, 8, 8, 8, 8, 8, 8, 8, 8, 8, 8, 8, 8, 8, 8, 8, 8, 8, 8, 8, 8, 8, 8, 8, 8, 8, 8, 8, 8, 8, 8, 8, 8, 8, 8, 8, 8, 8, 8, 8, 8, 8, 8, 8, 8, 8, 8, 8, 8, 8, 8, 8, 8, 8, 8, 8, 8, 8, 8, 8, 8, 8, 8, 8, 8, 8, 8, 8, 8, 8, 8, 8, 8, 8, 8, 8, 8, 8, 8, 8, 8, 8, 8, 8, 8, 8, 8, 8, 8, 8, 8, 8, 8, 8, 8, 8, 8, 8, 8, 8, 8, 8, 8, 8, 8, 8, 8, 8, 8, 8, 8, 8, 8, 8]⟩ : ByteArray) (i : Int)).1
 obtain ⟨v, hv'⟩ : ∃ v, v = bt (⟨#[0, 1, 2, 2, 3, 3, 3, 3, 4, 4, 4, 4, 4, 4, 4, 4, 5, 5, 5, 5, 5, 5, 5, 5, 5, 5, 5, 5, 5, 5, 5, 5, 6, 6, 6, 6, 6, 6, 6, 6, 6, 6, 6, 6, 6, 6, 6, 6, 6, 6, 6, 6, 6, 6, 6, 6, 6, 6, 6, 6, 6, 6, 6, 6, 7, 7, 7, 7, 7, 7, 7, 7, 7, 7, 7, 7, 7, 7, 7, 7, 7, 7, 7, 7, 7, 7, 7, 7, 7, 7, 7, 7, 7, 7, 7, 7, 7, 7, 7, 7, 7, 7, 7, 7, 7, 7, 7, 7, 7, 7, 7, 7, 7, 7, 7, 7, 7, 7, 7, 7, 7, 7, 7, 7, 7, 7, 7, 7, 8, 8, 8, 8, 8, 8, 8, 8, 8, 8, 8, 8, 8, 8, 8, 8, 8, 8, 8, 8, 8, 8, 8, 8, 8, 8, 8, 8, 8, 8, 8, 8, 8, 8, 8, 8, 8, 8, 8, 8, 8, 8, 8, 8, 8, 8, 8, 8, 8, 8, 8, 8, 8, 8, 8, 8, 8, 8, 8, 8, 8, 8, 8, 8, 8, 8, 8, 8, 8, 8, 8, 8, 8, 8, 8, 8, 8, 8, 8, 8, 8, 8, 8, 8, 8, 8, 8, 8, 8, 8, 8, 8, 8, 8, 8, 8, 8, 8, 8, 8, 8, 8, 8, 8, 8, 8, 8, 8, 8, 8, 8, 8, 8, 8, 8, 8, 8, 8, 8, 8, 8, 8, 8, 8, 8, 8, 8, 8]⟩ : ByteArray) (i : Int) := ⟨_, rfl⟩
 rw [← hv'] at h1 h2 h3 ⊢
 obtain ⟨n, rfl⟩ : ∃ n : Nat, v = (n : Int) := ⟨v.toNat, by omega⟩
 rw [Int.toNat_natCast] at h1 h2
 by_cases h0 : i = 0
 ·subst h0
  rw [Num.blen_zero]
  rw [hv']
  exact bits_Len32.zero
 ·obtain ⟨h4, h5⟩ := h2 h0
  obtain ⟨m, rfl⟩ : ∃ m, n = m + 1 := ⟨n - 1, by omega⟩
  rw [Nat.add_sub_cancel] at h5
  rw [Num.blen_eq h5 h1]
theorem bits_Len32.blen_div (k : Nat) : ∀ n : Nat, 2 ^ k ≤ n → Num.blen n = Num.blen (n / 2 ^ k) + k := by
 induction k with
 | zero => intro n _; rw [Nat.pow_zero, Nat.div_one]; rfl
 | succ k ih =>
  intro n h
  rw [Nat.pow_succ] at h
  have hp : 0 < 2 ^ k := Nat.pow_pos (by omega)
  rw [Num.blen_pos (by omega), ih (n / 2) (by omega), Nat.div_div_eq_div_mul, Nat.pow_succ, Nat.mul_comm 2]
  omega
theorem bits_Len32.sem {n : Nat} (h : n < 4294967296) : bits_Len32.f (n : Int) = some ((Num.blen n : Nat) : Int) := by
 have le8 : ∀ i : Nat, i < 256 → Num.blen i ≤ 8 := by
  intro i hi
  rcases Nat.lt_or_ge 8 (Num.blen i) with h1 | h1
  ·have h0 : i ≠ 0 := by
    intro e
    rw [e, Num.blen_zero] at h1
    omega
   have h2 := Num.blen_le h0
   have h3 : 2 ^ 8 ≤ 2 ^ (Num.blen i - 1) := Nat.pow_le_pow_right (by omega) (by omega)
   omega
  ·exact h1
 unfold bits_Len32.f
 by_cases h1 : 65536 ≤ n
 ·rw [if_pos (by omega)]
  by_cases h2 : 256 ≤ n / 65536
  ·have e : ((n : Int) / 65536 / 256) % 256 = ((n / 2 ^ 24 : Nat) : Int) := by omega
   have hi : n / 2 ^ 24 < 256 := by omega
   have := le8 _ hi
   rw [if_pos (by omega), e, if_pos (by omega), if_pos (by omega), bits_Len32.at_ hi, Dec.w64n _ (by omega), Dec.w64 (by omega) (by omega), bits_Len32.blen_div 24 n (by omega)]
   congr 1
   omega
  ·have e : ((n : Int) / 65536) % 256 = ((n / 2 ^ 16 : Nat) : Int) := by omega
   have hi : n / 2 ^ 16 < 256 := by omega
   have := le8 _ hi
   rw [if_neg (by omega), e, if_pos (by omega), if_pos (by omega), bits_Len32.at_ hi, Dec.w64n _ (by omega), Dec.w64 (by omega) (by omega), bits_Len32.blen_div 16 n (by omega)]
   congr 1
   omega
 ·rw [if_neg (by omega)]
  by_cases h2 : 256 ≤ n
  ·have e : ((n : Int) / 256) % 256 = ((n / 2 ^ 8 : Nat) : Int) := by omega
   have hi : n / 2 ^ 8 < 256 := by omega
   have := le8 _ hi
   rw [if_pos (by omega), e, if_pos (by omega), if_pos (by omega), bits_Len32.at_ hi, Dec.w64n _ (by omega), Dec.w64 (by omega) (by omega), bits_Len32.blen_div 8 n (by omega)]
   congr 1
   omega
  ·have e : (n : Int) % 256 = (n : Int) := by omega
   have := le8 n (by omega)
   rw [if_neg (by omega), e, if_pos (by omega), if_pos (by omega), bits_Len32.at_ (by omega), Dec.w64n _ (by omega), Dec.w64 (by omega) (by omega)]
   congr 1
   omega
def nat_Bits.f (k : Nat) (l0 : List Int) : Option (Int) := (nat_trim.f k l0).bind fun t220 => (if (t220.length : Int) = 0 then (some 0) else (if 0 ≤ (wrap64 ((t220.length : Int) - 1)) then (if (wrap64 ((t220.length : Int) - 1)) < (t220.length : Int) then ((bits_Len32.f (rd t220 (wrap64 ((t220.length : Int) - 1)))).bind fun t224 => (some (wrap64 ((wrap64 (32 * (wrap64 ((t220.length : Int) - 1)))) + t224)))) else (none)) else (none)))
set_option maxHeartbeats 8000000 in
set_option maxRecDepth 100000 in
theorem nat_Bits.calls (k : Nat) (A0 : Option Addr) (c0 : Nat) (l0 : List Int) (r : Int) (w : World) (hr0 : Kd.C (Kd.int .u32) w A0 l0.length l0) (hc0 : l0.length ≤ c0) (h : nat_Bits.f k l0 = some r) :
  Calls Try.prog 43 #[.slice A0 l0.length c0] w fun e w' => e = .returned (.int .i64 r) ∧ Below w.heap.size w w' := by
 have HR0 := Aside0.mk hr0
 have HC0 := Aside0.mk hc0
 clear hr0 hc0
 have HB := Aside0.mk (Below.refl w.heap.size w)
 have H : ((nat_trim.f k l0).bind fun t220 => (if (t220.length : Int) = 0 then (some 0) else (if 0 ≤ (wrap64 ((t220.length : Int) - 1)) then (if (wrap64 ((t220.length : Int) - 1)) < (t220.length : Int) then ((bits_Len32.f (rd t220 (wrap64 ((t220.length : Int) - 1)))).bind fun t224 => (some (wrap64 ((wrap64 (32 * (wrap64 ((t220.length : Int) - 1)))) + t224)))) else (none)) else (none)))) = some r := h
 clear h
 replace H := Option.bind_eq_some_iff.mp H
 obtain ⟨t220, A20, H⟩ := H
 try dsimp only at H
 have A2 := Aside0.mk A20
 clear A20
 by_cases c3 : (t220.length : Int) = 0
 ·rw [if_pos c3] at H
  have c3b0 : ((t220.length : Int) == 0) = true := beq_iff_eq.mpr c3
  have c3b1 : ((t220.length : Int) != 0) = false := bne_eq_false_iff_eq.mpr c3
  clear c3
  obtain rfl := Option.some.inj H
  go_enter Try.func43, Try.ntmps43
  go_wp2_with (first | ((with_reducible refine gate_callee (f := 71) rfl ?_); refine Short.goesS_ (some 4) Try.func71 #[.slice A0 l0.length c0] ?_; (with_reducible refine (nat_trim.calls k _ _ l0 t220 _ HR0.out HC0.out A2.out).mono ?_); rintro e w4 ⟨v221, rfl, ho0, hb⟩; refine ⟨_, rfl, ?_⟩; have HO222 := Aside0.mk (Kd.R_lower ho0 (below_size (by repeat (first | (with_reducible first | exact HB.out | apply below_alloc | apply pw_below_drewN | apply below_drew1) | exact HB.out)))); replace HB := Aside0.mk (below_step (by repeat (first | (with_reducible first | exact HB.out | apply below_alloc | apply pw_below_drewN | apply below_drew1) | exact HB.out)) hb); (try clear hb); (try clear ho0); obtain ⟨Ao5, co5, eo5⟩ := Kd.R_slice HO222.out; subst eo5))
  go_ret
  exact ⟨by rfl, by repeat (first | (with_reducible first | exact HB.out | apply below_alloc | apply pw_below_drewN | apply below_drew1) | exact HB.out)⟩
 ·rw [if_neg c3] at H
  have c3b0 : ((t220.length : Int) == 0) = false := beq_eq_false_iff_ne.mpr c3
  have c3b1 : ((t220.length : Int) != 0) = true := bne_iff_ne.mpr c3
  have c3b2 : ¬ (t220 = []) := fun h_ => c3 (by rw [h_]; rfl)
  obtain ⟨ji6, hji6⟩ : ∃ j_ : Int, (wrap64 ((t220.length : Int) - 1)) = j_ := ⟨_, rfl⟩
  replace H : (if 0 ≤ (ji6) then (if (ji6) < (t220.length : Int) then ((bits_Len32.f (rd t220 (ji6))).bind fun t224 => (some (wrap64 ((wrap64 (32 * (ji6))) + t224)))) else (none)) else (none)) = some r := by first | (rw [hji6] at H; exact H) | (simp only [hji6] at H ⊢; exact H)
  (try rw [hji6] at A2)
  have hji6w : (IntKind.i64.wrap ((t220.length : Int) - 1)) = ji6 := (i64_w _).trans hji6
  by_cases c7 : 0 ≤ (ji6)
  ·rw [if_pos c7] at H
   have c7b0 : decide (0 ≤ (ji6)) = true := decide_eq_true c7
   clear c7
   by_cases c8 : (ji6) < (t220.length : Int)
   ·rw [if_pos c8] at H
    have c8b0 : decide ((ji6) < (t220.length : Int)) = true := decide_eq_true c8
    clear c8
    replace H := Option.bind_eq_some_iff.mp H
    obtain ⟨t224, A90, H⟩ := H
    replace H : (some (wrap64 ((wrap64 (32 * (ji6))) + t224))) = some r := H
    have A9 := Aside0.mk A90
    clear A90
    obtain rfl := Option.some.inj H
    go_enter Try.func43, Try.ntmps43
    go_wp2_with (first | ((with_reducible refine gate_callee (f := 71) rfl ?_); refine Short.goesS_ (some 4) Try.func71 #[.slice A0 l0.length c0] ?_; (with_reducible refine (nat_trim.calls k _ _ l0 t220 _ HR0.out HC0.out A2.out).mono ?_); rintro e w10 ⟨v221, rfl, ho0, hb⟩; refine ⟨_, rfl, ?_⟩; have HO222 := Aside0.mk (Kd.R_lower ho0 (below_size (by repeat (first | (with_reducible first | exact HB.out | apply below_alloc | apply pw_below_drewN | apply below_drew1) | exact HB.out)))); replace HB := Aside0.mk (below_step (by repeat (first | (with_reducible first | exact HB.out | apply below_alloc | apply pw_below_drewN | apply below_drew1) | exact HB.out)) hb); (try clear hb); (try clear ho0); obtain ⟨Ao11, co11, eo11⟩ := Kd.R_slice HO222.out; subst eo11; have p223 : 0 ≤ ((ji6) : Int) := of_decide_eq_true (by first | (with_reducible assumption) | assumption); have q223 : (ji6) < (t220.length : Int) := of_decide_eq_true (by first | (with_reducible assumption) | assumption); obtain ⟨ad223, e223, hx223_0⟩ := Kd.at_int (Kd.R_reads' HO222.out).2.2 (ji6) p223 q223; cases e223; replace p223 := eq_true p223; replace q223 := eq_true q223) | ((with_reducible refine gate_callee (f := 76) rfl ?_); refine goesL_ (some 18) rfl rfl Try.func76 (by kernel_rfl) rfl #[.int .u32 (rd t220 (ji6))] rfl (by (try simp only [List.map_toArray, List.map_cons, List.map_nil]); first | done | (simp only [hji6]; rfl) | rfl) ?_; (with_reducible refine (bits_Len32.calls (rd t220 (ji6)) t224 _ A9.out).mono ?_); rintro e w' ⟨rfl, ⟨nd, rfl⟩⟩; refine ⟨_, rfl, ?_⟩))
    go_ret
    exact ⟨by first | rfl | (simp [errW_none, errW_some] <;> rfl) | (simp only [← hji6]; first | rfl | (simp [errW_none, errW_some] <;> rfl)) | (simp [*, errW_none, errW_some] <;> rfl), by repeat (first | (with_reducible first | exact HB.out | apply below_alloc | apply pw_below_drewN | apply below_drew1) | exact HB.out)⟩
   ·rw [if_neg c8] at H
    exact absurd H (by simp)
  ·rw [if_neg c7] at H
   exact absurd H (by simp)

theorem nat_Bits.ev {l : List Int} (hW : Num.Ws l) (hl : l.length < 10000000) : Ev (fun k => nat_Bits.f k l) ((Num.blen (Num.nv l) : Nat) : Int) := by
 obtain ⟨x, hx⟩ : ∃ x, x = Num.nv l := ⟨_, rfl⟩
 have ht := nat_trim.ev hW (by omega)
 rw [← hx] at ht ⊢
 have hlx : (Num.nd x).length ≤ l.length := by rw [hx]; exact Num.nd_length_le (Num.nv_lt hW)
 unfold nat_Bits.f
 refine Ev.bind ht ?_
 by_cases h0 : x = 0
 ·subst h0
  rw [Num.nd_zero, Num.blen_zero]
  exact Dec.yes rfl (Ev.now _)
 ·have h2 : 0 < (Num.nd x).length := by
   rcases Nat.eq_zero_or_pos (Num.nd x).length with h | h
   ·exact absurd (Num.nd_eq_nil.1 (List.eq_nil_of_length_eq_zero h)) h0
   ·exact h
  obtain ⟨m, hm⟩ : ∃ m, (Num.nd x).length = m + 1 := ⟨(Num.nd x).length - 1, by omega⟩
  have hlast := Num.nd_last h0
  have hw := (Num.Ws_nd x).getD m
  obtain ⟨u, hu⟩ : ∃ u : Nat, (u : Int) = (Num.nd x).getD m 0 := ⟨((Num.nd x).getD m 0).toNat, by omega⟩
  rw [hm, Nat.add_sub_cancel, ← hu] at hlast
  have hs := Num.nv_split (Num.nd x) m (by omega)
  have htk := Num.nv_take_lt (Num.Ws_nd x) m (by omega)
  rw [Num.nv_nd, List.drop_of_length_le (by omega), ← hu, Int.toNat_natCast, Num.nv, Nat.mul_zero, Nat.add_zero] at hs
  have hdiv : x / 2 ^ (32 * m) = u := by
   rw [hs, Nat.add_mul_div_left _ _ (Nat.pow_pos (by omega)), Nat.div_eq_of_lt htk, Nat.zero_add]
  have hge : 2 ^ (32 * m) ≤ x := by
   have := Nat.mul_le_mul_left (2 ^ (32 * m)) (show 1 ≤ u from by omega)
   omega
  have hbl := bits_Len32.blen_div (32 * m) x hge
  rw [hdiv] at hbl
  have hu32 : u < 4294967296 := by omega
  have hb32 : Num.blen u ≤ 32 := by
   rcases Nat.lt_or_ge 32 (Num.blen u) with h1 | h1
   ·have h2 := Num.blen_le (show u ≠ 0 from by omega)
    have h3 : 2 ^ 32 ≤ 2 ^ (Num.blen u - 1) := Nat.pow_le_pow_right (by omega) (by omega)
    omega
   ·exact h1
  have ep : wrap64 (((Num.nd x).length : Int) - 1) = (m : Int) := by rw [hm, Dec.w64 (by omega) (by omega)]; omega
  have er : rd (Num.nd x) (m : Int) = (u : Int) := by rw [hu]; simp [rd]
  refine Ev.congr (f := fun _ => some ((Num.blen x : Nat) : Int)) (fun k => ?_) (Ev.now _)
  rw [if_neg (by omega), ep, if_pos (by omega), if_pos (by omega), er, bits_Len32.sem hu32, Option.bind_some, Dec.w64 (n := 32 * (m : Int)) (by omega) (by omega), Dec.w64 (by omega) (by omega), hbl]
  congr 1
  omega
set_option synthInstance.checkSynthOrder false in
open Lin in
instance nat_Bits.t {k : Nat} {l0 : List Int} {r : Int} [h : Ans (nat_Bits.f k l0) r] : Tl Try.prog 43 [.one (.row l0)] (.el (.one (.val (.int .i64 r)))) := ⟨Tells.of Try.func43 fun out w vs ho hl hv => by
 obtain ⟨u0, rfl, h0⟩ := args1 hl hv
 obtain ⟨A0, c0, rfl, hc0, hr0, hb0⟩ := h0
 refine (nat_Bits.calls k A0 c0 l0 _ w hr0 hc0 h.out).mono ?_
 rintro e w' ⟨rfl, hb⟩
 exact ⟨_, rfl, ⟨rfl, rfl⟩, hb⟩⟩
section
def nat_Small.f (_k : Nat) (l0 : List Int) : Option (Int × Bool) := if Num.okw l0 = true then (if Num.nv l0 < 18446744073709551616 then some ((Num.nv l0 : Int), true) else some (0, false)) else none
def nat_Small.go (z : List Int) (pre : List Nat) : Int := pre.foldl (fun s j => Go.bits .or .u64 (IntKind.u64.wrap (s * 4294967296)) (IntKind.u64.wrap (Back.wd z j))) 0
theorem nat_Small.go_snoc (z : List Int) (pre : List Nat) (x : Nat) : nat_Small.go z (pre ++ [x]) = Go.bits .or .u64 (IntKind.u64.wrap (nat_Small.go z pre * 4294967296)) (IntKind.u64.wrap (Back.wd z x)) := by simp [nat_Small.go]
theorem nat_Small.wrap_u64 (n : Int) : IntKind.u64.wrap n = n % 18446744073709551616 := by simp [IntKind.wrap, IntKind.bits, IntKind.signed]
theorem nat_Small.join (x y : Int) (h0 : 0 ≤ x) (h1 : x < 4294967296) (h2 : 0 ≤ y) (h3 : y < 4294967296) : Go.bits .or .u64 (IntKind.u64.wrap (x * 4294967296)) (IntKind.u64.wrap y) = x * 4294967296 + y := by
 have e1 : IntKind.u64.wrap (x * 4294967296) = x * 4294967296 := by rw [nat_Small.wrap_u64]; omega
 have e2 : IntKind.u64.wrap y = y := by rw [nat_Small.wrap_u64]; omega
 rw [e1, e2]
 exact bits_join .u64 64 (by decide) (fun n a b => by rw [nat_Small.wrap_u64]; omega) 32 _ _ (by omega) (by omega) (by omega) h2 (by omega) (by omega)
theorem nat_Small.go_all {z : List Int} (hW : Num.Ws z) (hl : z.length ≤ 2) : nat_Small.go z (List.range z.length) = (Num.nv z : Int) := by
 match z, hW, hl with
 | [], _, _ => rfl
 | [x], hW, _ =>
  have hx := hW.head
  have := nat_Small.join 0 x (by omega) (by omega) hx.1 hx.2
  simp [Back.wd, Back.ix, nat_Small.go, Num.nv, List.range_succ] at this ⊢
  rw [this]
  omega
 | [x, y], hW, _ =>
  have hx := hW.head
  have hy := hW.tail.head
  have a := nat_Small.join 0 y (by omega) (by omega) hy.1 hy.2
  have b := nat_Small.join y x hy.1 hy.2 hx.1 hx.2
  simp [Back.wd, Back.ix, nat_Small.go, Num.nv, List.range_succ] at a b ⊢
  rw [a, b]
  omega
open Go.Shelf Back in
attribute [local go_sem] Oper.semAt_some in
set_option maxHeartbeats 8000000 in
set_option maxRecDepth 100000 in
theorem nat_Small.calls (k : Nat) (A0 : Option Addr) (c0 : Nat) (l0 : List Int) (r1 : Int) (r2 : Bool) (w : World) (hr0 : Kd.C (Kd.int .u32) w A0 l0.length l0) (hc0 : l0.length ≤ c0) (h : nat_Small.f k l0 = some (r1, r2)) :
  Calls Try.prog 83 #[.slice A0 l0.length c0] w fun e w' => e = .returned (.tuple #[.int .u64 r1, .bool r2]) ∧ Below w.heap.size w w' := by
 have hok : Num.okw l0 = true := by
  unfold nat_Small.f at h
  split at h
  ·assumption
  ·cases h
 have ht := nat_trim.sem hok (l0.length + 1) (by omega)
 obtain ⟨z, hz⟩ : ∃ z, z = Num.nd (Num.nv l0) := ⟨_, rfl⟩
 have hW : Num.Ws z := by rw [hz]; exact Num.Ws_nd _
 have hnv : Num.nv z = Num.nv l0 := by rw [hz, Num.nv_nd]
 rw [← hz] at ht
 have hl := Num.nv_lt hW
 have HT := Aside0.mk ht
 have HR := Aside0.mk hr0
 have HC := Aside0.mk hc0
 unfold nat_Small.f at h
 rw [if_pos hok] at h
 by_cases hs : Num.nv l0 < 18446744073709551616
 ·rw [if_pos hs] at h
  obtain ⟨rfl, rfl⟩ : (Num.nv l0 : Int) = r1 ∧ true = r2 := by simpa using h
  have hz2 : z.length ≤ 2 := by
   rw [hz]
   exact Num.nd_length_le (k := 2) (by omega)
  have HN := Aside0.mk hnv
  have HZ := Aside0.mk hz
  have HW := Aside0.mk hW
  clear h ht hr0 hc0 hnv hz hs hl hok hW
  refine (callsIn_wide (n := 3)).1 ?_
  refine callsIn_of_wp_marks Try.func83 rfl trivial ?_ rfl
  simp only [Try.ntmps83, List.size_toArray, List.length_cons, List.length_nil, Nat.reduceAdd, Nat.reduceSub, Array.replicate_succ, Array.replicate_zero, List.push_toArray, List.append_toArray, List.nil_append, List.cons_append]
  gi_wp2_with (first | (refine ⟨trivial, ?_⟩; gi_at_call 71; refine (callsIn_wide.2 (nat_trim.calls _ _ _ l0 _ _ HR.out HC.out HT.out)).mono ?_; rintro e w1 ⟨v, rfl, ho, hb⟩; obtain ⟨A, c, hv⟩ := Kd.R_slice ho; subst hv) | (refine ⟨trivial, ?_⟩; gi_at_call 87; refine (back_in Fence.wide _ trivial rfl _ _ _ _).mono ?_; rintro e w2 ⟨rfl, rfl⟩))
  have hsz := hb.size
  have bN := Boxed.new w1 58 (.int .u64 0)
  have bS := Boxed.new (w1.alloc (.cells #[.int .u64 0] 58)) 23 (.slice A z.length c)
  rw [World.size_alloc] at bS
  have hB0 : Below w.heap.size w ((w1.alloc (.cells #[.int .u64 0] 58)).alloc (.cells #[.slice A z.length c] 23)) := (hb.alloc hsz _).alloc (by simp; omega) _
  have hrow := (Row.ofR ho (Nat.le_refl _)).below (((Below.refl _ w1).alloc (Nat.le_refl _) (.cells #[.int .u64 0] 58)).alloc (by simp) (.cells #[.slice A z.length c] 23))
  refine wpIn_rangeFunc_ownG (F := Fence.wide) (n := 3) rfl (by omega) (gf := 94) (lb := #[.pointer (some ⟨w1.heap.size + 1, 0, none⟩)]) rfl trivial (enters_of Try.func94 (by kernel_rfl) rfl)
   (back_stops Fence.wide _ trivial rfl (by omega) (w1.heap.size + 1) w1.heap.size _ z (by omega) _ (by simp) (by simp; omega) bS.cell hrow) KB.trans (KB.putObj (by simp; omega) (by simp)) (Below.refl _ _) (fun _ => rfl)
   (fun pre W => (W.cell? ⟨w1.heap.size, 0, none⟩ = some (.int .u64 (nat_Small.go z pre)) ∧ W.frozen? ⟨w1.heap.size, 0, none⟩ = false) ∧ Below w.heap.size w W)
   (fun _ _ _ => False)
   (OwnFrom.and (Own.from (fun s A B row hs hg hr => ⟨cell_kept hs.1 hg hr, (frozen_kept hs.1 hg hr).trans hs.2⟩) _) (ownFrom_below (Nat.le_refl _) (by simp; omega)))
   (fun _ _ _ _ _ hs _ _ => hs)
   ⟨⟨(bN.alloc _).cell, (bN.alloc _).frozen⟩, hB0⟩
   (fun x => { tmps := #[.slice A z.length c, undef, .int .u64 0, .bool false, .pointer (some ⟨w1.heap.size, 0, none⟩), undef, .int .u32 (wd z x), .slice A0 l0.length c0, .slice A z.length c, .slice A z.length c, .int .i64 (z.length : Int), .bool (decide (2 < (z.length : Int))), .slice A z.length c, .func (.func 94) #[] #[.pointer (some ⟨w1.heap.size + 1, 0, none⟩)], .int .i64 (ix z.length x : Int), .int .u32 (wd z x), undef, undef, undef, undef, undef, undef], defers := [] }) ?assign ?body ?done ?stop
  case assign =>
   intro l x W K hK
   gi_wp2
   exact hK
  case body =>
   rintro l pre x W ⟨⟨hc, hf⟩, hB⟩ _
   gi_wp2
   exact ⟨(KeepsOthers.setCell _ _ _).from _, KB.setCell (Nat.le_refl _) (by omega) _, ⟨by rw [nat_Small.go_snoc]; exact World.cell?_setCell_same' _ _ _ (by rw [hc]; rfl), by rw [World.frozen?_setCell]; exact hf⟩, hB.setCell (p := ⟨w1.heap.size, 0, none⟩) hb.size _⟩
  case done =>
   rintro D ys W hD rfl ⟨⟨hc, hf⟩, hB⟩ hK
   gi_wp2
   refine ⟨by simp, .inl ⟨_, _, rfl, run_takeDeferred hK, ?_⟩⟩
   refine ⟨_, results_tmp2 rfl _ _ _, ?_, hB.trans (belowK_b (w := w) (Nat.le_refl _) W D _ _ (by simp at hD; omega) hK rfl rfl)⟩
   rw [nat_Small.go_all HW.out hz2, HN.out]
   rfl
  case stop =>
   rintro D c pre W _ _ h _
   exact h.elim
 ·rw [if_neg hs] at h
  obtain ⟨rfl, rfl⟩ : (0 : Int) = r1 ∧ false = r2 := by simpa using h
  have hz3 : 3 ≤ z.length := by
   rcases Nat.lt_or_ge z.length 3 with h3 | h3
   ·exfalso
    have : 2 ^ (32 * z.length) ≤ 2 ^ 64 := Nat.pow_le_pow_right (by omega) (by omega)
    omega
   ·exact h3
  clear h ht hr0 hc0 hnv hz hs hl hok hW
  go_enter Try.func83, Try.ntmps83
  go_wp2_with (go_at_call 71; refine (nat_trim.calls _ _ _ l0 _ _ HR.out HC.out HT.out).mono ?_; rintro e w1 ⟨v, rfl, ho, hb⟩; obtain ⟨A, c, hv⟩ := Kd.R_slice ho; subst hv)
  go_ret2
  exact ⟨rfl, hb⟩
set_option synthInstance.checkSynthOrder false in
open Lin in
instance nat_Small.t {_k : Nat} {l0 : List Int} {r : Int × Bool} [h : Ans (nat_Small.f _k l0) r] : Tl Try.prog 83 [.one (.row l0)] (.tup [.one (.val (.int .u64 r.1)), .one (.val (.bool r.2))]) := ⟨Tells.of Try.func83 fun out w vs ho hl hv => by
 obtain ⟨u0, rfl, h0⟩ := args1 hl hv
 obtain ⟨A0, c0, rfl, hc0, hr0, hb0⟩ := h0
 refine (nat_Small.calls _k A0 c0 l0 _ _ w hr0 hc0 h.out).mono ?_
 rintro e w' ⟨rfl, hb⟩
 exact ⟨_, rfl, tup2 (⟨rfl, rfl⟩) (⟨rfl, rfl⟩), hb⟩⟩
end
end Go.Proofs.Ytcdkopidgibijaa.PR
