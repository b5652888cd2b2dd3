-- PRINTED by print.py (a twelfth state) out of the translation. Not trusted: Lean checks it.
import Derived.Test.YtmodmjeibbgdgaaNum
import Derived.Test.YtmodmjeibbgdgaaBack
import Derived.Test.YtmodmjeibbgdgaaPRx0
import Derived.Test.YtmodmjeibbgdgaaPRx3
namespace Go.Proofs.Ytmodmjeibbgdgaa.PR
open Go.RowKit Go.Proofs.YtmodmjeibbgdgaaW.PrintWords Go.Proofs.YtmodmjeibbgdgaaW.PrintLast Go.Proofs.YtmodmjeibbgdgaaW.PrintMore
attribute [local go_sem] max2_int min2_int max_two min_two max_three min_three max_four min_four   -- for this text's walks alone
set_option linter.unusedVariables false
set_option linter.unusedSimpArgs false

/-! ### nat_Small: function 16 -/
def nat_Small.f (_k : Nat) (l0 : List Int) : Option (Int × Bool) := if Num.okw l0 = true then (if Num.nv l0 < 18446744073709551616 then some ((Num.nv l0 : Int), true) else some (0, false)) else none
theorem nat_Small.mono : ∀ a0 k, LeO (nat_Small.f k a0) (nat_Small.f (k + 1) a0) := fun _ _ => LeO.refl _
/-- What the loop reckons. -/
def nat_Small.go (z : List Int) (pre : List Nat) : Int := pre.foldl (fun s j => Go.bits .or .u64 (IntKind.u64.wrap (s * 4294967296)) (IntKind.u64.wrap (Back.wd z j))) 0
theorem nat_Small.go_snoc (z : List Int) (pre : List Nat) (x : Nat) : nat_Small.go z (pre ++ [x]) = Go.bits .or .u64 (IntKind.u64.wrap (nat_Small.go z pre * 4294967296)) (IntKind.u64.wrap (Back.wd z x)) := by simp [nat_Small.go]
theorem nat_Small.wrap_u64 (n : Int) : IntKind.u64.wrap n = n % 18446744073709551616 := by simp [IntKind.wrap, IntKind.bits, IntKind.signed]
theorem nat_Small.join (x y : Int) (h0 : 0 ≤ x) (h1 : x < 4294967296) (h2 : 0 ≤ y) (h3 : y < 4294967296) : Go.bits .or .u64 (IntKind.u64.wrap (x * 4294967296)) (IntKind.u64.wrap y) = x * 4294967296 + y := by
  have e1 : IntKind.u64.wrap (x * 4294967296) = x * 4294967296 := by rw [nat_Small.wrap_u64]; omega
  have e2 : IntKind.u64.wrap y = y := by rw [nat_Small.wrap_u64]; omega
  rw [e1, e2]
  exact bits_join .u64 64 (by decide) (fun n a b => by rw [nat_Small.wrap_u64]; omega) 32 _ _ (by omega) (by omega) (by omega) h2 (by omega) (by omega)
theorem nat_Small.go_all {z : List Int} (hW : Num.Ws z) (hl : z.length ≤ 2) : nat_Small.go z (List.range z.length) = (Num.nv z : Int) := by
  match z, hW, hl with
  | [], _, _ => rfl
  | [x], hW, _ =>
    have hx := hW.head
    have := nat_Small.join 0 x (by omega) (by omega) hx.1 hx.2
    simp [Back.wd, Back.ix, nat_Small.go, Num.nv, List.range_succ] at this ⊢
    rw [this]
    omega
  | [x, y], hW, _ =>
    have hx := hW.head
    have hy := hW.tail.head
    have a := nat_Small.join 0 y (by omega) (by omega) hy.1 hy.2
    have b := nat_Small.join y x hy.1 hy.2 hx.1 hx.2
    simp [Back.wd, Back.ix, nat_Small.go, Num.nv, List.range_succ] at a b ⊢
    rw [a, b]
    omega
open Go.Shelf Back in
attribute [local go_sem] Oper.semAt_some in
set_option maxHeartbeats 8000000 in
set_option maxRecDepth 100000 in
theorem nat_Small.calls (k : Nat) (A0 : Option Addr) (c0 : Nat) (l0 : List Int) (r1 : Int) (r2 : Bool) (w : World) (hr0 : Kd.C (Kd.int .u32) w A0 l0.length l0) (hc0 : l0.length ≤ c0) (h : nat_Small.f k l0 = some (r1, r2)) :
    Calls Try.prog 16 #[.slice A0 l0.length c0] w fun e w' => e = .returned (.tuple #[.int .u64 r1, .bool r2]) ∧ Below w.heap.size w w' := by
  have hok : Num.okw l0 = true := by
    unfold nat_Small.f at h
    split at h
    · assumption
    · cases h
  have ht := nat_trim.sem hok (l0.length + 1) (by omega)
  obtain ⟨z, hz⟩ : ∃ z, z = Num.nd (Num.nv l0) := ⟨_, rfl⟩
  have hW : Num.Ws z := by rw [hz]; exact Num.Ws_nd _
  have hnv : Num.nv z = Num.nv l0 := by rw [hz, Num.nv_nd]
  rw [← hz] at ht
  have hl := Num.nv_lt hW
  have HT := Aside0.mk ht
  have HR := Aside0.mk hr0
  have HC := Aside0.mk hc0
  unfold nat_Small.f at h
  rw [if_pos hok] at h
  by_cases hs : Num.nv l0 < 18446744073709551616
  · rw [if_pos hs] at h
    obtain ⟨rfl, rfl⟩ : (Num.nv l0 : Int) = r1 ∧ true = r2 := by simpa using h
    have hz2 : z.length ≤ 2 := by
      rw [hz]
      exact Num.nd_length_le (k := 2) (by omega)
    have HN := Aside0.mk hnv
    have HZ := Aside0.mk hz
    have HW := Aside0.mk hW
    clear h ht hr0 hc0 hnv hz hs hl hok hW
    refine (callsIn_wide (n := 3)).1 ?_
    refine callsIn_of_wp_marks Try.func16 rfl trivial ?_ rfl
    simp only [Try.ntmps16, List.size_toArray, List.length_cons, List.length_nil, Nat.reduceAdd, Nat.reduceSub, Array.replicate_succ, Array.replicate_zero, List.push_toArray, List.append_toArray, List.nil_append, List.cons_append]
    gi_wp2_with (first | (refine ⟨trivial, ?_⟩; gi_at_call 38; refine (callsIn_wide.2 (nat_trim.calls _ _ _ l0 _ _ HR.out HC.out HT.out)).mono ?_; rintro e w1 ⟨v, rfl, ho, hb⟩; obtain ⟨A, c, hv⟩ := Kd.R_slice ho; subst hv) | (refine ⟨trivial, ?_⟩; gi_at_call 39; refine (back_in Fence.wide _ trivial rfl _ _ _ _).mono ?_; rintro e w2 ⟨rfl, rfl⟩))
    have hsz := hb.size
    have bN := Boxed.new w1 28 (.int .u64 0)
    have bS := Boxed.new (w1.alloc (.cells #[.int .u64 0] 28)) 23 (.slice A z.length c)
    rw [World.size_alloc] at bS
    have hB0 : Below w.heap.size w ((w1.alloc (.cells #[.int .u64 0] 28)).alloc (.cells #[.slice A z.length c] 23)) := (hb.alloc hsz _).alloc (by simp; omega) _
    have hrow := (Row.ofR ho (Nat.le_refl _)).below (((Below.refl _ w1).alloc (Nat.le_refl _) (.cells #[.int .u64 0] 28)).alloc (by simp) (.cells #[.slice A z.length c] 23))
    refine wpIn_rangeFunc_ownG (F := Fence.wide) (n := 3) rfl (by omega) (gf := 47) (lb := #[.pointer (some ⟨w1.heap.size + 1, 0, none⟩)]) rfl trivial (enters_of Try.func47 (by kernel_rfl) rfl)
      (back_stops Fence.wide _ trivial rfl (by omega) (w1.heap.size + 1) w1.heap.size _ z (by omega) _ (by simp) (by simp; omega) bS.cell hrow) KB.trans (KB.putObj (by simp; omega) (by simp)) (Below.refl _ _) (fun _ => rfl)
      (fun pre W => (W.cell? ⟨w1.heap.size, 0, none⟩ = some (.int .u64 (nat_Small.go z pre)) ∧ W.frozen? ⟨w1.heap.size, 0, none⟩ = false) ∧ Below w.heap.size w W)
      (fun _ _ _ => False)
      (OwnFrom.and (Own.from (fun s A B row hs hg hr => ⟨cell_kept hs.1 hg hr, (frozen_kept hs.1 hg hr).trans hs.2⟩) _) (ownFrom_below (Nat.le_refl _) (by simp; omega)))
      (fun _ _ _ _ _ hs _ _ => hs)
      ⟨⟨(bN.alloc _).cell, (bN.alloc _).frozen⟩, hB0⟩
      (fun x => { tmps := #[.slice A z.length c, undef, .int .u64 0, .bool false, .pointer (some ⟨w1.heap.size, 0, none⟩), undef, .int .u32 (wd z x), .slice A0 l0.length c0, .slice A z.length c, .slice A z.length c, .int .i64 (z.length : Int), .bool (decide (2 < (z.length : Int))), .slice A z.length c, .func (.func 47) #[] #[.pointer (some ⟨w1.heap.size + 1, 0, none⟩)], .int .i64 (ix z.length x : Int), .int .u32 (wd z x), undef, undef, undef, undef, undef, undef], defers := [] }) ?assign ?body ?done ?stop
    case assign =>
      intro l x W K hK
      gi_wp2
      exact hK
    case body =>
      rintro l pre x W ⟨⟨hc, hf⟩, hB⟩ _
      gi_wp2
      exact ⟨(KeepsOthers.setCell _ _ _).from _, KB.setCell (Nat.le_refl _) (by omega) _, ⟨by rw [nat_Small.go_snoc]; exact World.cell?_setCell_same' _ _ _ (by rw [hc]; rfl), by rw [World.frozen?_setCell]; exact hf⟩, hB.setCell (p := ⟨w1.heap.size, 0, none⟩) hb.size _⟩
    case done =>
      rintro D ys W hD rfl ⟨⟨hc, hf⟩, hB⟩ hK
      gi_wp2
      refine ⟨by simp, .inl ⟨_, _, rfl, run_takeDeferred hK, ?_⟩⟩
      refine ⟨_, results_tmp2 rfl _ _ _, ?_, hB.trans (belowK_b (w := w) (Nat.le_refl _) W D _ _ (by simp at hD; omega) hK rfl rfl)⟩
      rw [nat_Small.go_all HW.out hz2, HN.out]
      rfl
    case stop =>
      rintro D c pre W _ _ h _
      exact h.elim
  · rw [if_neg hs] at h
    obtain ⟨rfl, rfl⟩ : (0 : Int) = r1 ∧ false = r2 := by simpa using h
    have hz3 : 3 ≤ z.length := by
      rcases Nat.lt_or_ge z.length 3 with h3 | h3
      · exfalso
        have : 2 ^ (32 * z.length) ≤ 2 ^ 64 := Nat.pow_le_pow_right (by omega) (by omega)
        omega
      · exact h3
    clear h ht hr0 hc0 hnv hz hs hl hok hW
    go_enter Try.func16, Try.ntmps16
    go_wp2_with (go_at_call 38; refine (nat_trim.calls _ _ _ l0 _ _ HR.out HC.out HT.out).mono ?_; rintro e w1 ⟨v, rfl, ho, hb⟩; obtain ⟨A, c, hv⟩ := Kd.R_slice ho; subst hv)
    go_ret2
    exact ⟨rfl, hb⟩

end Go.Proofs.Ytmodmjeibbgdgaa.PR
