/- Several functions' texts in one file. -/
import Derived.Test.YtcdkopidgibijaaTy
import Derived.Test.YtcdkopidgibijaaRow
import Derived.Stop.RegionWithIn
import Derived.Test.YtcdkopidgibijaaNum
import Derived.Test.YtcdkopidgibijaaBack
import Derived.Test.YtcdkopidgibijaaPRg0
import Derived.Test.YtcdkopidgibijaaShort
import Derived.Deep.RegionWith
import Derived.Test.YtcdkopidgibijaaMem
import Derived.Test.YtcdkopidgibijaaRat
import Derived.Test.YtcdkopidgibijaaInt
import Derived.Test.YtcdkopidgibijaaDec
namespace Go.Proofs.Ytcdkopidgibijaa.PR
open Go.RowKit Go.Proofs.YtcdkopidgibijaaW.PrintWords Go.Proofs.YtcdkopidgibijaaW.PrintLast Go.Proofs.YtcdkopidgibijaaW.PrintMore
attribute [local go_sem] max2_int min2_int max_two min_two max_three min_three max_four min_four   -- for this text's walks alone
set_option linter.unusedVariables false
set_option linter.unusedSimpArgs false
section
def nat_Compare.f (_k : Nat) (l0 : List Int) (l1 : List Int) : Option (Int) := if Num.okw l0 = true then (if Num.okw l1 = true then some (Num.cmp (Num.nv l0) (Num.nv l1)) else none) else none
theorem nat_Compare.drop_eq {a b : List Int} (hl : a.length = b.length) (k : Nat) (hk : k ≤ a.length) (he : ∀ p ∈ List.range k, Back.wd a p = b[Back.ix a.length p]?.getD 0) : a.drop (a.length - k) = b.drop (a.length - k) := by
 apply List.ext_getElem
 ·simp [hl]
 ·intro i h1 h2
  rw [List.length_drop] at h1
  have hp := he (k - 1 - i) (List.mem_range.2 (by omega))
  have hi : a.length - 1 - (k - 1 - i) = a.length - k + i := by omega
  simp only [Back.wd, Back.ix, hi] at hp
  rw [List.getElem?_eq_getElem (by omega), List.getElem?_eq_getElem (by omega)] at hp
  simpa using hp
theorem nat_Compare.at_stop {a b : List Int} (ha : Num.Ws a) (hb : Num.Ws b) (hl : a.length = b.length) (k : Nat) (hk : k < a.length) (he : ∀ p ∈ List.range k, Back.wd a p = b[Back.ix a.length p]?.getD 0) (hne : Back.wd a k ≠ b[Back.ix a.length k]?.getD 0) :
  (if Back.wd a k < b[Back.ix a.length k]?.getD 0 then -1 else 1) = Num.cmp (Num.nv a) (Num.nv b) := by
 have hd := nat_Compare.drop_eq hl k (by omega) he
 have hq : a.length - 1 - k + 1 = a.length - k := by omega
 by_cases h : Back.wd a k < b[Back.ix a.length k]?.getD 0
 ·rw [if_pos h, Num.cmp_lt (Num.nv_lt_of_at ha hb (a.length - 1 - k) (by omega) (by omega) (by rw [hq]; exact hd) (by simpa [Back.wd, Back.ix, List.getD_eq_getElem?_getD] using h))]
 ·rw [if_neg h, Num.cmp_gt (Num.nv_lt_of_at hb ha (a.length - 1 - k) (by omega) (by omega) (by rw [hq]; exact hd.symm) (by simp only [Back.wd, Back.ix] at h hne; simp only [List.getD_eq_getElem?_getD]; omega))]
open Go.Shelf Back in
attribute [local go_sem] Oper.semAt_some in
set_option maxHeartbeats 1000000 in
set_option maxRecDepth 100000 in
theorem nat_Compare.calls (k : Nat) (A0 : Option Addr) (c0 : Nat) (l0 : List Int) (A1 : Option Addr) (c1 : Nat) (l1 : List Int) (r : Int) (w : World) (hr0 : Kd.C (Kd.int .u32) w A0 l0.length l0) (hc0 : l0.length ≤ c0) (hr1 : Kd.C (Kd.int .u32) w A1 l1.length l1) (hc1 : l1.length ≤ c1) (h : nat_Compare.f k l0 l1 = some r) :
  Calls Try.prog 62 #[.slice A0 l0.length c0, .slice A1 l1.length c1] w fun e w' => e = .returned (.int .i64 r) ∧ Below w.heap.size w w' := by
 have hok0 : Num.okw l0 = true := by
  unfold nat_Compare.f at h
  split at h
  ·assumption
  ·cases h
 have hok1 : Num.okw l1 = true := by
  unfold nat_Compare.f at h
  rw [if_pos hok0] at h
  split at h
  ·assumption
  ·cases h
 obtain rfl : Num.cmp (Num.nv l0) (Num.nv l1) = r := by
  unfold nat_Compare.f at h
  rw [if_pos hok0, if_pos hok1] at h
  exact Option.some.inj h
 have ht0 := nat_trim.sem hok0 (l0.length + 1) (by omega)
 have ht1 := nat_trim.sem hok1 (l1.length + 1) (by omega)
 obtain ⟨z0, hz0⟩ : ∃ z, z = Num.nd (Num.nv l0) := ⟨_, rfl⟩
 obtain ⟨z1, hz1⟩ : ∃ z, z = Num.nd (Num.nv l1) := ⟨_, rfl⟩
 have hn0 := Num.okw_nd_length hok0
 have hn1 := Num.okw_nd_length hok1
 rw [← hz0] at ht0 hn0
 rw [← hz1] at hn1
 rw [← hz1] at ht1
 have HT0 := Aside0.mk ht0
 have HT1 := Aside0.mk ht1
 have HR0 := Aside0.mk hr0
 have HC0 := Aside0.mk hc0
 have HR1 := Aside0.mk hr1
 have HC1 := Aside0.mk hc1
 have HZ0 := Aside0.mk hz0
 have HZ1 := Aside0.mk hz1
 clear ht0 ht1 hr0 hc0 hr1 hc1 hz0 hz1 h hok0 hok1
 have hB0 : Below w.heap.size w ((w.alloc (.cells #[.slice A1 l1.length c1] 23)).alloc (.cells #[.int .i64 0] 3)) := ((Below.refl _ w).alloc (Nat.le_refl _) _).alloc (by simp) _
 have bB := (Boxed.new w 23 (.slice A1 l1.length c1)).alloc (.cells #[.int .i64 0] 3)
 have bR := Boxed.new (w.alloc (.cells #[.slice A1 l1.length c1] 23)) 3 (.int .i64 0)
 rw [World.size_alloc] at bR
 refine (callsIn_wide (n := 3)).1 ?_
 refine callsIn_of_wp_marks Try.func62 rfl trivial ?_ rfl
 simp only [Try.ntmps62, List.size_toArray, List.length_cons, List.length_nil, Nat.reduceAdd, Nat.reduceSub, Array.replicate_succ, Array.replicate_zero, List.push_toArray, List.append_toArray, List.nil_append, List.cons_append]
 gi_wp2
 have hcb0 := bB.cell
 have hsz0 : ((w.alloc (.cells #[.slice A1 l1.length c1] 23)).alloc (.cells #[.int .i64 0] 3)).heap.size = w.heap.size + 2 := by simp
 generalize ((w.alloc (.cells #[.slice A1 l1.length c1] 23)).alloc (.cells #[.int .i64 0] 3)) = w0 at hB0 bB bR hcb0 hsz0 ⊢
 refine wpIn_noPanic ?_
 have hlt0 : w.heap.size < w0.heap.size := bB.lt
 gi_region_with (first | (refine ⟨trivial, ?_⟩; gi_at_call 71; (with_reducible refine (callsIn_wide.2 (nat_trim.calls _ _ _ l0 _ _ (Kd.C_below HR0.out hB0.drew) HC0.out HT0.out)).mono ?_); rintro e w1 ⟨v0, rfl, ho0, hb0⟩; obtain ⟨Az0, cz0, hv0⟩ := Kd.R_slice ho0; subst hv0; have hB1 : Below w.heap.size w w1 := hB0.drew.trans (hb0.mono hB0.size); have bB1 : Boxed w1 w.heap.size 23 (.slice A1 l1.length c1) := (hb0.block _ hlt0).trans bB; have hcb1 := bB1.cell) | (refine ⟨trivial, ?_⟩; gi_at_call 71; (with_reducible refine (callsIn_wide.2 (nat_trim.calls _ _ _ l1 _ _ (Kd.C_below HR1.out hB1) HC1.out HT1.out)).mono ?_); rintro e w2 ⟨v1, rfl, ho1, hb1⟩; obtain ⟨Az1, cz1, hv1⟩ := Kd.R_slice ho1; subst hv1; have bB2 : Boxed w2 w.heap.size 23 (.slice A1 l1.length c1) := (hb1.block _ bB1.lt).trans bB1; have hcb2 := bB2.cell; have hfb2 := bB2.frozen))
 all_goals
  refine noPanic_then ?_
  have hs0 : w0.drew.heap.size = w0.heap.size := rfl
  have hs1 := hb0.size
  have hs2 := hb1.size
  have R03 := Kd.R_far (p := ⟨w.heap.size, 0, none⟩) (Kd.R_mono (Kd.R_bound (Kd.R_below ho0 hb1)) (ok' := fun k => w0.heap.size ≤ k) (fun k hk => hk.2.1)) (fun k hk => by simp only; omega) (.slice Az1 z1.length cz1)
  have R13 := Kd.R_far (p := ⟨w.heap.size, 0, none⟩) (Kd.R_mono (Kd.R_bound ho1) (ok' := fun k => w1.heap.size ≤ k) (fun k hk => hk.2.1)) (fun k hk => by simp only; omega) (.slice Az1 z1.length cz1)
  have hB3 : Below w.heap.size w (w2.setCell ⟨w.heap.size, 0, none⟩ (.slice Az1 z1.length cz1)) := (hB1.trans (hb1.mono (by omega))).setCell (p := ⟨w.heap.size, 0, none⟩) (Nat.le_refl _) _
  have bB3 := bB2.set (.slice Az1 z1.length cz1)
  have bR3 : Boxed (w2.setCell ⟨w.heap.size, 0, none⟩ (.slice Az1 z1.length cz1)) (w.heap.size + 1) 3 (.int .i64 0) := (Below.heap_setCell _ _ _ _ (by simp)).trans ((hb1.block _ (by omega)).trans ((hb0.block _ (by omega)).trans bR))
  have hs3 : w2.heap.size = (w2.setCell ⟨w.heap.size, 0, none⟩ (.slice Az1 z1.length cz1)).heap.size := by simp [World.setCell]
  generalize w2.setCell ⟨w.heap.size, 0, none⟩ (.slice Az1 z1.length cz1) = W3 at R03 R13 hB3 bB3 bR3 hs3 ⊢
  have hc3 := bB3.cell
  have hcr3 := bR3.cell
  have hfr3 := bR3.frozen
  clear bB2 hcb2 hfb2 bB1 hcb1 hcb0 bB bR
  have hc5 : ∀ x, (W3.setCell ⟨w.heap.size + 1, 0, none⟩ (.int .i64 x)).cell? ⟨w.heap.size + 1, 0, none⟩ = some (.int .i64 x) := fun x => World.cell?_setCell_same' _ _ _ (by rw [hcr3]; rfl)
  have HC5 := Aside0.mk hc5
  clear hc5
  rcases Nat.lt_trichotomy z0.length z1.length with hl | hl | hl
  ·gi_wp2
   all_goals
    have hcmp : Num.cmp (Num.nv l0) (Num.nv l1) = -1 := Num.cmp_lt (Num.lt_of_len (by rw [← HZ0.out, ← HZ1.out]; exact hl))
    refine ⟨.int .i64 (-1), ?_, by rw [hcmp], hB3.setCell (p := ⟨w.heap.size + 1, 0, none⟩) (by simp) _⟩
    have hc5 := HC5.out
    simp [results, Try.f62, go_sem, hc5]
    try omega
  ·have HL := Aside0.mk hl
   gi_wp2_with (refine ⟨trivial, ?_⟩; gi_at_call 87; refine (back_in Fence.wide _ trivial rfl _ _ _ _).mono ?_; rintro e w4 ⟨rfl, rfl⟩)
   have row0 := (Row.ofR R03 (Nat.le_refl _)).below ((Below.refl W3.heap.size W3).alloc (Nat.le_refl _) (.cells #[.slice Az0 z0.length cz0] 23))
   have row1 := Row.ofR R13 (Nat.le_refl _)
   rw [hl] at row0
   have bS := Boxed.new W3 23 (.slice Az0 z1.length cz0)
   clear R03 R13 hl
   refine wpIn_rangeFunc_ownG (F := Fence.wide) (n := 3) rfl (by omega) (gf := 94) (lb := #[.pointer (some ⟨W3.heap.size, 0, none⟩)]) rfl trivial (enters_of Try.func94 (by kernel_rfl) rfl)
    (back_stops Fence.wide _ trivial rfl (by omega) W3.heap.size W3.heap.size _ z0 (by omega) _ (by simp) (by simp) bS.cell row0) KB.trans (KB.putObj (by simp) (by simp)) (Below.refl _ _) (fun _ => rfl)
    (fun pre W => (∀ p ∈ pre, wd z0 p = z1[ix z0.length p]?.getD 0) ∧ Below W3.heap.size W3 W)
    (fun c pre W => (c = .ret ∧ ∃ ini j, pre = ini ++ [j] ∧ (∀ p ∈ ini, wd z0 p = z1[ix z0.length p]?.getD 0) ∧ wd z0 j ≠ z1[ix z0.length j]?.getD 0 ∧ W.cell? ⟨w.heap.size + 1, 0, none⟩ = some (.int .i64 (if wd z0 j < z1[ix z0.length j]?.getD 0 then -1 else 1))) ∧ Below w.heap.size w W)
    (OwnFrom.and (Own.from (fun s A B row hs hg hr => hs) _) (ownFrom_below (Nat.le_refl _) (by simp)))
    (fun c => OwnFrom.and (Own.from (fun s A B row hs hg hr => by obtain ⟨hc, ini, j, e1, e2, e3, e4⟩ := hs; exact ⟨hc, ini, j, e1, e2, e3, cell_kept e4 hg hr⟩) _) (ownFrom_below (Nat.le_refl _) (by simp; omega)))
    ⟨by simp, (Below.refl _ _).alloc (Nat.le_refl _) _⟩
    (fun x => { tmps := #[.slice Az0 z1.length cz0, .slice A1 l1.length c1, undef, .pointer (some ⟨w.heap.size, 0, none⟩), .pointer (some ⟨w.heap.size + 1, 0, none⟩), .int .i64 (ix z0.length x : Int), .int .u32 (wd z0 x), .slice A0 l0.length c0, .slice Az0 z1.length cz0, .slice A1 l1.length c1, .slice Az1 z1.length cz1, .slice Az0 z1.length cz0, .int .i64 (z1.length : Int), .slice Az1 z1.length cz1, .int .i64 (z1.length : Int), .bool false, undef, undef, undef, undef, undef, undef, undef, .slice Az0 z1.length cz0, .func (.func 94) #[] #[.pointer (some ⟨W3.heap.size, 0, none⟩)], .int .i64 (ix z0.length x : Int), .int .u32 (wd z0 x), undef, undef, undef, undef, undef, undef, undef, undef, undef, undef, undef, undef, undef, undef], defers := [] }) ?assign ?body ?done ?stop
   case assign =>
    intro l x W K hK
    gi_wp2
    exact hK
   case body =>
    rintro l pre x W ⟨hp, hB⟩ hlt
    have hz : ix z0.length x < z1.length := by unfold ix; have := HL.out; omega
    rcases row1 with ⟨_, rfl⟩ | ⟨b, off, cap, e, hb, hcs⟩
    ·simp at hz
    ·cases e
     have hcz := (hB.cell (p := ⟨b, off + ix z0.length x, none⟩) hb).trans (hcs _ hz)
     have hcb := (hB.cell (p := ⟨w.heap.size, 0, none⟩) bB3.lt).trans hc3
     have hcr := (hB.cell (p := ⟨w.heap.size + 1, 0, none⟩) bR3.lt).trans hcr3
     have hfr := (hB.frozen (p := ⟨w.heap.size + 1, 0, none⟩) bR3.lt).trans hfr3
     obtain ⟨y, hy⟩ : ∃ y, y = z1[ix z0.length x]?.getD 0 := ⟨_, rfl⟩
     obtain ⟨u, hu⟩ : ∃ u, u = wd z0 x := ⟨_, rfl⟩
     obtain ⟨q, hq⟩ : ∃ q, q = ix z0.length x := ⟨_, rfl⟩
     rw [← hy] at hcz
     rw [← hu]
     rw [← hq] at hz hcz ⊢
     have HY := Aside0.mk hy
     have HU := Aside0.mk hu
     have HP := Aside0.mk hp
     have HB := Aside0.mk hB
     have HCR := Aside0.mk hcr
     clear hy hu hq hp hB hcs
     have hq0 : (0 : Int) ≤ (q : Int) := by omega
     rcases Int.lt_trichotomy u y with h | h | h
     ·gi_wp2
      exact ⟨(KeepsOthers.setCell _ _ _).from _, ⟨rfl, pre, x, rfl, HP.out, by rw [← HU.out, ← HY.out]; omega, by rw [← HU.out, ← HY.out, if_pos h]; exact World.cell?_setCell_same' _ _ _ (by rw [HCR.out]; rfl)⟩, (hB3.trans (HB.out.mono hB3.size)).setCell (p := ⟨w.heap.size + 1, 0, none⟩) (by simp) _⟩
     ·have h1 : ¬ u < y := by omega
      have h2 : ¬ y < u := by omega
      have H := Aside0.mk h
      clear h
      gi_wp2
      exact ⟨KeepsFrom.refl _ _, KB.refl _ _ _, fun p hp' => (List.mem_append.1 hp').elim (HP.out p) (fun e => by simp at e; subst e; rw [← HU.out, ← HY.out]; exact H.out), HB.out⟩
     ·gi_wp2
      exact ⟨(KeepsOthers.setCell _ _ _).from _, ⟨rfl, pre, x, rfl, HP.out, by rw [← HU.out, ← HY.out]; omega, by rw [← HU.out, ← HY.out, if_neg (by omega)]; exact World.cell?_setCell_same' _ _ _ (by rw [HCR.out]; rfl)⟩, (hB3.trans (HB.out.mono hB3.size)).setCell (p := ⟨w.heap.size + 1, 0, none⟩) (by simp) _⟩
   case done =>
    rintro D ys W hD rfl ⟨hne, hB⟩ hK
    have hcr := (hB.cell (p := ⟨w.heap.size + 1, 0, none⟩) bR3.lt).trans hcr3
    have hfr := (hB.frozen (p := ⟨w.heap.size + 1, 0, none⟩) bR3.lt).trans hfr3
    have HNE := Aside0.mk hne
    clear hne
    gi_wp2
    have hK' := (KeepsOthers.setCell W ⟨w.heap.size + 1, 0, none⟩ (.int .i64 0)).same D _ hK rfl
    refine ⟨by simp, .inl ⟨_, _, rfl, run_takeDeferred hK', ?_⟩⟩
    have hc5 := cell_kept (World.cell?_setCell_same' W ⟨w.heap.size + 1, 0, none⟩ (.int .i64 0) (by rw [hcr]; rfl)) (grownBy_putObj' _ D (.deferred none)) (fun r e => by cases e; exact ⟨_, hK', rfl⟩)
    have heq : z0 = z1 := by
     have := nat_Compare.drop_eq HL.out z0.length (Nat.le_refl _) HNE.out
     simpa using this
    have hcmp : Num.cmp (Num.nv l0) (Num.nv l1) = 0 := Num.cmp_eq (by rw [← Num.nv_nd (Num.nv l0), ← Num.nv_nd (Num.nv l1), ← HZ0.out, ← HZ1.out, heq])
    refine ⟨.int .i64 0, ?_, by rw [hcmp], ((hB3.trans (hB.mono hB3.size)).setCell (p := ⟨w.heap.size + 1, 0, none⟩) (by simp) _).trans (belowK_b (w := w) (Nat.le_refl _) _ D _ _ (by simp at hD; omega) hK' rfl rfl)⟩
    simp [results, Try.f62, go_sem, hc5]
   case stop =>
    rintro D c pre W hD ⟨k', hk', rfl⟩ ⟨⟨rfl, ini, j, e1, e2, e3, hcr⟩, hB⟩ hK
    gi_wp2
    refine ⟨by simp, .inl ⟨_, _, rfl, run_takeDeferred hK, ?_⟩⟩
    have hc5 := cell_kept hcr (grownBy_putObj' _ D (.deferred none)) (fun r e => by cases e; exact ⟨_, hK, rfl⟩)
    obtain ⟨k2, rfl⟩ : ∃ k2, k' = k2 + 1 := by
     cases k' with
     | zero => simp at e1
     | succ k2 => exact ⟨k2, rfl⟩
    rw [List.range_succ] at e1
    obtain ⟨rfl, e5⟩ := List.append_inj' e1 rfl
    obtain rfl : k2 = j := by simpa using e5
    have hcmp := nat_Compare.at_stop (by rw [HZ0.out]; exact Num.Ws_nd _) (by rw [HZ1.out]; exact Num.Ws_nd _) HL.out k2 (by omega) e2 e3
    have hv : Num.cmp (Num.nv z0) (Num.nv z1) = Num.cmp (Num.nv l0) (Num.nv l1) := by rw [HZ0.out, HZ1.out, Num.nv_nd, Num.nv_nd]
    rw [hcmp, hv] at hc5
    refine ⟨.int .i64 (Num.cmp (Num.nv l0) (Num.nv l1)), ?_, rfl, hB.trans (belowK_b (w := w) (Nat.le_refl _) W D _ _ (by simp at hD; omega) hK rfl rfl)⟩
    simp [results, Try.f62, go_sem, hc5]
  ·gi_wp2
   all_goals
    have hcmp : Num.cmp (Num.nv l0) (Num.nv l1) = 1 := Num.cmp_gt (Num.lt_of_len (by rw [← HZ0.out, ← HZ1.out]; exact hl))
    refine ⟨.int .i64 1, ?_, by rw [hcmp], hB3.setCell (p := ⟨w.heap.size + 1, 0, none⟩) (by simp) _⟩
    have hc5 := HC5.out
    simp [results, Try.f62, go_sem, hc5]
    try omega
set_option synthInstance.checkSynthOrder false in
open Lin in
instance nat_Compare.t {_k : Nat} {l0 : List Int} {l1 : List Int} {r : Int} [h : Ans (nat_Compare.f _k l0 l1) r] : Tl Try.prog 62 [.one (.row l0), .one (.row l1)] (.el (.one (.val (.int .i64 r)))) := ⟨Tells.of Try.func62 fun out w vs ho hl hv => by
 obtain ⟨u0, u1, rfl, h0, h1⟩ := args2 hl hv
 obtain ⟨A0, c0, rfl, hc0, hr0, hb0⟩ := h0
 obtain ⟨A1, c1, rfl, hc1, hr1, hb1⟩ := h1
 refine (nat_Compare.calls _k A0 c0 l0 A1 c1 l1 _ w hr0 hc0 hr1 hc1 h.out).mono ?_
 rintro e w' ⟨rfl, hb⟩
 exact ⟨_, rfl, ⟨rfl, rfl⟩, hb⟩⟩
end
def nat_Sub.l0 : Nat → List Int → List Int → List Int → Int → Int → Int → Option (List Int × Bool)
 | 0, _, _, _, _, _, _ => none
 | k + 1, x0, x1, x6, x7, x18, x19 => if x19 < x18 then ((nat_at.f x0 x19).bind fun t160 => ((nat_at.f x1 x19).bind fun t161 => (if 0 ≤ x19 then (if x19 < (x6.length : Int) then (nat_Sub.l0 k x0 x1 (x6.set (x19 : Int).toNat ((IntKind.u64.wrap ((IntKind.u64.wrap (t160 - t161)) - x7)) % 4294967296)) ((IntKind.u64.wrap ((IntKind.u64.wrap (t160 - t161)) - x7)) / 9223372036854775808) x18 (wrap64 (x19 + 1))) else (none)) else (none)))) else ((nat_trim.f k x6).bind fun t163 => (some (t163, true)))
def nat_Sub.f (k : Nat) (l0 : List Int) (l1 : List Int) : Option (List Int × Bool) := (nat_Compare.f k l0 l1).bind fun t156 => (if t156 < 0 then (some (([] : List Int), false)) else (if 0 ≤ (l0.length : Int) then (if ((l0.length : Int) : Int).toNat ≤ 70368744177664 then ((some (List.replicate ((l0.length : Int) : Int).toNat 0 : List Int)).bind fun y157 => (nat_Sub.l0 k l0 l1 y157 0 (y157.length : Int) 0)) else (none)) else (none)))
set_option maxHeartbeats 8000000 in
set_option maxRecDepth 100000 in
theorem nat_Sub.calls (k : Nat) (A0 : Option Addr) (c0 : Nat) (l0 : List Int) (A1 : Option Addr) (c1 : Nat) (l1 : List Int) (r1 : List Int) (r2 : Bool) (w : World) (hr0 : Kd.C (Kd.int .u32) w A0 l0.length l0) (hc0 : l0.length ≤ c0) (hr1 : Kd.C (Kd.int .u32) w A1 l1.length l1) (hc1 : l1.length ≤ c1) (h : nat_Sub.f k l0 l1 = some (r1, r2)) :
  Calls Try.prog 88 #[.slice A0 l0.length c0, .slice A1 l1.length c1] w fun e w' => ∃ v0_ : Value, e = .returned (.tuple #[v0_, .bool r2]) ∧ Kd.R (Kd.int .u32) 89 w' w.heap.size (fun _ => True) v0_ r1 ∧ Below w.heap.size w w' := by
 have HR0 := Aside0.mk hr0
 have HC0 := Aside0.mk hc0
 clear hr0 hc0
 have HR1 := Aside0.mk hr1
 have HC1 := Aside0.mk hc1
 clear hr1 hc1
 have HB := Aside0.mk (Below.refl w.heap.size w)
 have H : ((nat_Compare.f k l0 l1).bind fun t156 => (if t156 < 0 then (some (([] : List Int), false)) else (if 0 ≤ (l0.length : Int) then (if ((l0.length : Int) : Int).toNat ≤ 70368744177664 then ((some (List.replicate ((l0.length : Int) : Int).toNat 0 : List Int)).bind fun y157 => (nat_Sub.l0 k l0 l1 y157 0 (y157.length : Int) 0)) else (none)) else (none)))) = some (r1, r2) := h
 clear h
 replace H := Option.bind_eq_some_iff.mp H
 obtain ⟨t156, A30, H⟩ := H
 try dsimp only at H
 have A3 := Aside0.mk A30
 clear A30
 by_cases c4 : t156 < 0
 ·rw [if_pos c4] at H
  have c4b0 : decide (t156 < 0) = true := decide_eq_true c4
  clear c4
  simp only [Option.some.injEq, Prod.mk.injEq] at H
  obtain ⟨rfl, rfl⟩ := H
  go_enter Try.func88, Try.ntmps88
  go_wp2_with (first | ((with_reducible refine gate_callee (f := 62) rfl ?_); refine Short.goesS_ (some 12) Try.func62 #[.slice A0 l0.length c0, .slice A1 l1.length c1] ?_; (with_reducible refine (nat_Compare.calls k _ _ l0 _ _ l1 t156 _ HR0.out HC0.out HR1.out HC1.out A3.out).mono ?_); rintro e w5 ⟨rfl, hb⟩; refine ⟨_, rfl, ?_⟩; replace HB := Aside0.mk (below_step (by repeat (first | (with_reducible first | exact HB.out | apply below_alloc | apply pw_below_drewN | apply below_drew1) | exact HB.out)) hb); (try clear hb)))
  go_ret2
  exact ⟨_, by rfl, by first | exact Kd.R_nil _ _ _ _ _ | exact Kd.N_nil _ _ _ _ _ | exact Kd.V_nil _ _ _ _ _ | exact Kd.Q_nil _ _ _ _ _ | exact Kd.S_nil _ _ _ _ _, by repeat (first | (with_reducible first | exact HB.out | apply below_alloc | apply pw_below_drewN | apply below_drew1) | exact HB.out)⟩
 ·rw [if_neg c4] at H
  have c4b0 : decide (t156 < 0) = false := decide_eq_false c4
  clear c4
  by_cases c6 : 0 ≤ (l0.length : Int)
  ·rw [if_pos c6] at H
   have c6b0 := eq_true c6
   have c6b1 : decide (0 ≤ (l0.length : Int)) = true := decide_eq_true c6
   clear c6
   by_cases c7 : ((l0.length : Int) : Int).toNat ≤ 70368744177664
   ·rw [if_pos c7] at H
    have c7b0 := eq_true c7
    have c7b1 : decide (((l0.length : Int) : Int).toNat ≤ 70368744177664) = true := decide_eq_true c7
    clear c7
    obtain ⟨y157, hy157⟩ : ∃ y_ : List Int, y_ = (List.replicate ((l0.length : Int) : Int).toNat 0) := ⟨_, rfl⟩
    replace H : (nat_Sub.l0 k l0 l1 y157 0 (y157.length : Int) 0) = some (r1, r2) := by first | (rw [hy157]; with_reducible exact H) | (have H2_ := (Option.bind_some _ _).symm.trans H; rw [hy157]; with_reducible exact H2_) | (have H2_ := (Option.bind_some _ _).symm.trans H; with_reducible exact H2_) | with_reducible exact H | (rw [hy157]; exact H) | exact H
    have Ny157 := Aside0.mk hy157
    clear hy157
    have H' := Aside0.mk H
    clear H
    go_enter Try.func88, Try.ntmps88
    go_wp2_with (first | ((with_reducible refine gate_callee (f := 62) rfl ?_); refine Short.goesS_ (some 12) Try.func62 #[.slice A0 l0.length c0, .slice A1 l1.length c1] ?_; (with_reducible refine (nat_Compare.calls k _ _ l0 _ _ l1 t156 _ HR0.out HC0.out HR1.out HC1.out A3.out).mono ?_); rintro e w8 ⟨rfl, hb⟩; refine ⟨_, rfl, ?_⟩; replace HB := Aside0.mk (below_step (by repeat (first | (with_reducible first | exact HB.out | apply below_alloc | apply pw_below_drewN | apply below_drew1) | exact HB.out)) hb); (try clear hb)) | ((with_reducible refine gate_dst (N := 16) rfl ?_); refine Kd.R_make (Kd.int .u32) _ 89 rfl (N := 16) rfl 23 _ _ rfl (l0.length : Int) rfl rfl Try.underlying23 (.int .u32 0) 4 info89 rfl (by decide) (by omega) 0 (ok := fun _ => True) (okp := fun _ => True) rfl (fun _ hk => hk) trivial (of_decide_eq_true (by first | (with_reducible assumption) | assumption)) (Nat.le_trans (Nat.mul_le_mul_right _ (of_decide_eq_true (by first | (with_reducible assumption) | assumption) : (l0.length : Int).toNat ≤ 70368744177664)) (by omega)) (Below.refl _ _) (Nat.le_refl _) ?_; intro v158 w9 ho10 hb hg_ hnew_; clear hg_ hnew_; (first | rw [← Ny157.out] at ho10 | (simp only [Int.reduceToNat] at ho10; rw [← Ny157.out] at ho10)); have HO159 := Aside0.mk (Kd.R_lower ho10 (below_size (by repeat (first | (with_reducible first | exact HB.out | apply below_alloc | apply pw_below_drewN | apply below_drew1) | exact HB.out)))); replace HB := Aside0.mk (below_step (by repeat (first | (with_reducible first | exact HB.out | apply below_alloc | apply pw_below_drewN | apply below_drew1) | exact HB.out)) hb); clear hb ho10; obtain ⟨Ao11, co11, eo11⟩ := Kd.R_slice HO159.out; subst eo11))
    go_loopg [7, 19] k (fun kq v7 v19 w' => ∃ (x6_1 : List Int) (x7_1 : Int) (x19_1 : Int), v7 = .int .u64 x7_1 ∧ v19 = .int .i64 x19_1 ∧ Aside0 (nat_Sub.l0 kq l0 l1 x6_1 x7_1 (y157.length : Int) x19_1 = some (r1, r2)) ∧ Aside0 (kq ≤ k) ∧ Aside0 (Kd.R (Kd.int .u32) 89 w' w.heap.size (fun _ => True) (.slice Ao11 y157.length co11) x6_1) ∧ Aside0 (Below w.heap.size w w'))
    case atStart => exact ⟨(y157), (0), (0), (by first | rfl | (simp; done) | (simp [*]; done)), (by first | rfl | (simp; done) | (simp [*]; done)), H', ⟨Nat.le_refl _⟩, ⟨by (with_reducible repeat (first | apply Kd.R_alloc | apply Kd.R_drewN | apply Kd.R_drew)); exact HO159.out⟩, ⟨by repeat (first | (with_reducible first | exact HB.out | apply below_alloc | apply pw_below_drewN | apply below_drew1) | exact HB.out)⟩⟩
    case round =>
     clear H'
     try clear c1
     try clear p2
     try clear c4
     try clear c4b0
     try clear c6
     try clear c6b0
     try clear c6b1
     try clear c7
     try clear c7b0
     try clear c7b1
     try clear c8
     obtain ⟨x6_1, x7_1, x19_1, rfl, rfl, HA, HK1, HO_6, HB⟩ := hrel
     have hl6_1 := (Kd.R_reads' HO_6.out).1
     rw [hl6_1] at HO_6
     (try simp only [hl6_1])
     cases gk with
     | zero => exact absurd HA.out (by simp [nat_Sub.l0])
     | succ k1 =>
      have H := HA.out
      clear HA
      simp only [nat_Sub.l0] at H
      by_cases c12 : x19_1 < (y157.length : Int)
      ·rw [if_pos c12] at H
       have c12b0 : decide (x19_1 < (y157.length : Int)) = true := decide_eq_true c12
       (try (have c12z0 : decide (x19_1 < (x6_1.length : Int)) = true := by rw [← hl6_1]; exact c12b0))
       clear c12
       replace H := Option.bind_eq_some_iff.mp H
       obtain ⟨t160, A130, H⟩ := H
       try dsimp only at H
       have A13 := Aside0.mk A130
       clear A130
       replace H := Option.bind_eq_some_iff.mp H
       obtain ⟨t161, A140, H⟩ := H
       try dsimp only at H
       have A14 := Aside0.mk A140
       clear A140
       by_cases c15 : 0 ≤ x19_1
       ·rw [if_pos c15] at H
        have c15b0 : decide (0 ≤ x19_1) = true := decide_eq_true c15
        clear c15
        by_cases c16 : x19_1 < (x6_1.length : Int)
        ·rw [if_pos c16] at H
         have c16b0 : decide (x19_1 < (x6_1.length : Int)) = true := decide_eq_true c16
         clear c16
         obtain ⟨y162, hy162⟩ : ∃ y_ : List Int, y_ = (x6_1.set (x19_1 : Int).toNat ((IntKind.u64.wrap ((IntKind.u64.wrap (t160 - t161)) - x7_1)) % 4294967296)) := ⟨_, rfl⟩
         replace H : (nat_Sub.l0 k1 l0 l1 y162 ((IntKind.u64.wrap ((IntKind.u64.wrap (t160 - t161)) - x7_1)) / 9223372036854775808) (y157.length : Int) (wrap64 (x19_1 + 1))) = some (r1, r2) := by first | (rw [hy162]; with_reducible exact H) | (have H2_ := (Option.bind_some _ _).symm.trans H; rw [hy162]; with_reducible exact H2_) | (have H2_ := (Option.bind_some _ _).symm.trans H; with_reducible exact H2_) | with_reducible exact H | (rw [hy162]; exact H) | exact H
         have Ny162 := Aside0.mk hy162
         clear hy162
         have H' := Aside0.mk H
         clear H
         go_wp2_with (first | ((with_reducible refine gate_callee (f := 93) rfl ?_); refine Short.goesS_ (some 24) Try.func93 #[.slice A0 l0.length c0, .int .i64 x19_1] ?_; (with_reducible refine (nat_at.calls _ _ l0 x19_1 t160 _ (Kd.C_below HR0.out HB.out) HC0.out A13.out).mono ?_); rintro e w' ⟨rfl, ⟨nd, rfl⟩⟩; refine ⟨_, rfl, ?_⟩; (try (rw [drewN_self wr]; generalize hq_ : World.drewN wr _ = wr; have n0_ : Aside0 (Kd.R (Kd.int .u32) 89 wr w.heap.size (fun _ => True) (.slice Ao11 x6_1.length co11) x6_1) := ⟨by rw [← hq_]; exact HO_6.out⟩; have n1_ : Aside0 (Below w.heap.size w wr) := ⟨by rw [← hq_]; exact (by repeat (first | (with_reducible first | exact HB.out | apply below_alloc | apply pw_below_drewN | apply below_drew1) | exact HB.out))⟩; clear HO_6 HB hq_; have HO_6 := n0_; have HB := n1_; clear n0_ n1_))) | ((with_reducible refine gate_callee (f := 93) rfl ?_); refine Short.goesS_ (some 27) Try.func93 #[.slice A1 l1.length c1, .int .i64 x19_1] ?_; (with_reducible refine (nat_at.calls _ _ l1 x19_1 t161 _ (Kd.C_below HR1.out HB.out) HC1.out A14.out).mono ?_); rintro e w' ⟨rfl, ⟨nd, rfl⟩⟩; refine ⟨_, rfl, ?_⟩; (try (rw [drewN_self wr]; generalize hq_ : World.drewN wr _ = wr; have n0_ : Aside0 (Kd.R (Kd.int .u32) 89 wr w.heap.size (fun _ => True) (.slice Ao11 x6_1.length co11) x6_1) := ⟨by rw [← hq_]; exact HO_6.out⟩; have n1_ : Aside0 (Below w.heap.size w wr) := ⟨by rw [← hq_]; exact (by repeat (first | (with_reducible first | exact HB.out | apply below_alloc | apply pw_below_drewN | apply below_drew1) | exact HB.out))⟩; clear HO_6 HB hq_; have HO_6 := n0_; have HB := n1_; clear n0_ n1_)); have p17 : 0 ≤ (x19_1 : Int) := of_decide_eq_true (by first | (with_reducible assumption) | assumption); have q17 : (x19_1 : Int) < ((x6_1.length : Int) : Int) := of_decide_eq_true (by first | (with_reducible assumption) | assumption); obtain ⟨go17, co17, eo17, gb17, gl17, cl17, HG17⟩ := Kd.R_form HO_6.out (by omega); (first | cases eo17 | (injection eo17 with ea_ en_ ec_; (first | subst ea_ | (injection ea_ with ea_; subst ea_)); subst ec_; clear en_)); have GB17 := Aside0.mk gb17; have GG17 := Aside0.mk HG17; clear gb17 gl17 HG17; obtain ⟨hx17_0, hf17_0⟩ := Kd.R_celln 0 HO_6.out (x19_1 : Int) p17 q17; replace p17 := eq_true p17; replace q17 := eq_true q17; obtain ⟨hy18_, hz18_⟩ := Kd.R_celln 0 HO_6.out (x19_1 : Int) (of_decide_eq_true (by first | (with_reducible assumption) | assumption)) (of_decide_eq_true (by first | (with_reducible assumption) | assumption)); have HP18 := Kd.R_putg HO_6.out (x19_1 : Int) ((IntKind.u64.wrap ((IntKind.u64.wrap (t160 - t161)) - x7_1)) % 4294967296)) | ((with_reducible refine gate_store (t := 89) (p := 35) rfl ?_); refine store_event (t := 89) (p := 35) (v := ?vo_w19) (w1 := (wr.setCell ⟨go17, (x19_1 : Int).toNat, none⟩ (.int .u32 ((IntKind.u64.wrap ((IntKind.u64.wrap (t160 - t161)) - x7_1)) % 4294967296)))) ?hg ?ho ?hn ?hr ?_; (case ho => rfl); (case hg => rfl); (case hn => rfl); (case hr => first | (go_simp; done) | (go_simp; rfl)); intro w19 hw; have hg : wr.grownBy w19 (some go17) := (by rw [hw]; exact HP18.2); have hp_ : Kd.R (Kd.int .u32) 89 w19 w.heap.size (fun _ => True) (.slice (some ⟨go17, 0, none⟩) x6_1.length co11) y162 := (by rw [hw, Ny162.out]; exact HP18.1); clear HP18; replace HO_6 := Aside0.mk (hp_); replace HB := Aside0.mk ((by rw [hw]; exact below_set (HB.out) GB17.out : Below w.heap.size w w19)); clear hg hw hp_))
         (try simp only [← hl6_1])
         go_roundg k1
         case measure => have := HK1.out; omega
         case rel => exact ⟨(y162), ((IntKind.u64.wrap ((IntKind.u64.wrap (t160 - t161)) - x7_1)) / 9223372036854775808), (wrap64 (x19_1 + 1)), (by first | rfl | (simp; done) | (simp [*]; done)), (by first | rfl | (simp; done) | (simp [*]; done)), H', ⟨by have := HK1.out; omega⟩, ⟨by (try simp only [hl6_1]); (with_reducible repeat (first | apply Kd.R_alloc | apply Kd.R_drewN | apply Kd.R_drew)); exact HO_6.out⟩, ⟨by repeat (first | (with_reducible first | exact HB.out | apply below_alloc | apply pw_below_drewN | apply below_drew1) | exact HB.out)⟩⟩
        ·rw [if_neg c16] at H
         exact absurd H (by simp)
       ·rw [if_neg c15] at H
        exact absurd H (by simp)
      ·rw [if_neg c12] at H
       have c12b0 : decide (x19_1 < (y157.length : Int)) = false := decide_eq_false c12
       (try (have c12z0 : decide (x19_1 < (x6_1.length : Int)) = false := by rw [← hl6_1]; exact c12b0))
       clear c12
       replace H := Option.bind_eq_some_iff.mp H
       obtain ⟨t163, A200, H⟩ := H
       replace H : (some (t163, true)) = some (r1, r2) := H
       have A20 := Aside0.mk A200
       clear A200
       simp only [Option.some.injEq, Prod.mk.injEq] at H
       obtain ⟨rfl, rfl⟩ := H
       go_wp2_with (first | ((with_reducible refine gate_callee (f := 71) rfl ?_); refine Short.goesS_ (some 40) Try.func71 #[.slice Ao11 x6_1.length co11] ?_; (with_reducible refine (nat_trim.calls k1 _ _ x6_1 t163 _ ((Kd.R_reads' HO_6.out).2.2) ((Kd.R_reads' HO_6.out).2.1) A20.out).mono ?_); rintro e w21 ⟨v164, rfl, ho0, hb⟩; refine ⟨_, rfl, ?_⟩; have HO165 := Aside0.mk (Kd.R_lower (Kd.R_new' ho0 (Kd.R_lt HO_6.out)) (below_size (by repeat (first | (with_reducible first | exact HB.out | apply below_alloc | apply pw_below_drewN | apply below_drew1) | exact HB.out)))); replace HO_6 := Aside0.mk (Kd.R_elder' HO_6.out (Kd.R_base ho0) hb); replace HB := Aside0.mk (below_step (by repeat (first | (with_reducible first | exact HB.out | apply below_alloc | apply pw_below_drewN | apply below_drew1) | exact HB.out)) hb); (try clear hb); (try clear ho0)))
       go_ret2
       exact ⟨_, by rfl, by (with_reducible repeat (first | apply Kd.R_alloc | apply Kd.R_drewN | apply Kd.R_drew)); exact Kd.R_mono HO165.out (fun _ hk => trivial), by repeat (first | (with_reducible first | exact HB.out | apply below_alloc | apply pw_below_drewN | apply below_drew1) | exact HB.out)⟩
   ·rw [if_neg c7] at H
    exact absurd H (by simp)
  ·rw [if_neg c6] at H
   exact absurd H (by simp)

theorem nat_Sub.ev_l {a b : List Int} (ha : Num.Ws a) (hb : Num.Ws b) (hba : Num.nv b ≤ Num.nv a) (hL : a.length < 35184372088832) (d : Nat) : ∀ (i : Nat) (x : List Int) (c : Nat), i + d = a.length → x.length = a.length → Num.Ws x → c ≤ 1 →
  Num.nv (a.take i) + 2 ^ (32 * i) * c = Num.nv (x.take i) + Num.nv (b.take i) → Ev (fun k => nat_Sub.l0 k a b x (c : Int) (a.length : Int) (i : Int)) (Num.nd (Num.nv a - Num.nv b), true) := by
 induction d with
 | zero =>
  intro i x c hi hx hW hc hv
  obtain rfl : i = a.length := by omega
  have hva := Num.nv_lt ha
  have hvx := Num.nv_lt hW
  rw [hx] at hvx
  rw [List.take_of_length_le (Nat.le_refl _), List.take_of_length_le (by omega), Num.nv_take_of_lt (by omega)] at hv
  have hv2 : Num.nv x = Num.nv a - Num.nv b := by
   rcases Nat.eq_zero_or_pos c with h | h
   ·subst h; omega
   ·obtain rfl : c = 1 := by omega
    omega
  refine Ev.step (f := fun k => (nat_trim.f k x).bind fun t => some (t, true)) (fun k => ?_) ?_
  ·simp only [nat_Sub.l0]
   rw [if_neg (by omega)]
  ·rw [← hv2]
   exact Ev.bind (nat_trim.ev hW (by omega)) (Ev.now _)
 | succ d ih =>
  intro i x c hi hx hW hc hv
  have hga := ha.getD i
  have hgb := hb.getD i
  obtain ⟨p, hp⟩ : ∃ p : Nat, (p : Int) = a.getD i 0 := ⟨(a.getD i 0).toNat, by omega⟩
  obtain ⟨q, hq⟩ : ∃ q : Nat, (q : Int) = b.getD i 0 := ⟨(b.getD i 0).toNat, by omega⟩
  have wu : ∀ n : Int, IntKind.u64.wrap n = n % 18446744073709551616 := fun n => by simp [IntKind.wrap, IntKind.bits, IntKind.signed]
  obtain ⟨o, c', ho, ho1, hc1, hc2, hs⟩ : ∃ o c' : Nat, (IntKind.u64.wrap (IntKind.u64.wrap ((p : Int) - (q : Int)) - (c : Int))) % 4294967296 = (o : Int) ∧ o < 4294967296 ∧ (IntKind.u64.wrap (IntKind.u64.wrap ((p : Int) - (q : Int)) - (c : Int))) / 9223372036854775808 = (c' : Int) ∧ c' ≤ 1 ∧ p + 4294967296 * c' = o + q + c := by
   rw [wu, wu]
   by_cases h : q + c ≤ p
   ·exact ⟨p - q - c, 0, by omega, by omega, by omega, by omega, by omega⟩
   ·exact ⟨4294967296 + p - q - c, 1, by omega, by omega, by omega, by omega, by omega⟩
  have c1 : (i : Int) < (a.length : Int) := by omega
  have c2 : 0 ≤ (i : Int) := by omega
  have c3 : (i : Int) < (x.length : Int) := by omega
  have hoc := Aside0.mk (And.intro ho hc1)
  clear ho hc1 wu
  refine Ev.step (f := fun k => nat_Sub.l0 k a b (x.set i (o : Int)) (c' : Int) (a.length : Int) ((i + 1 : Nat) : Int)) (fun k => ?_) ?_
  ·have e5 : wrap64 ((i : Int) + 1) = ((i + 1 : Nat) : Int) := by rw [nat_trim.w64 (by omega) (by omega)]; omega
   obtain ⟨ho, hc1⟩ := hoc.out
   simp only [nat_Sub.l0]
   rw [if_pos c1, nat_at.sem ha, nat_at.sem hb]
   simp only [Option.bind_some]
   rw [if_pos c2, if_pos c3, ← hp, ← hq, ho, hc1, e5]
   simp only [Int.toNat_natCast]
  ·refine ih (i + 1) _ _ (by omega) (by rw [List.length_set]; exact hx) (hW.set i (by omega) (by omega)) (by omega) ?_
   rw [Num.nv_set_take (by omega), Num.nv_take_succ, Num.nv_take_succ, Num.pow_succ32, Int.toNat_natCast, ← hp, ← hq, Int.toNat_natCast, Int.toNat_natCast]
   have h2 : 2 ^ (32 * i) * (p + 4294967296 * c') = 2 ^ (32 * i) * (o + q + c) := by rw [hs]
   rw [Nat.mul_add, Nat.mul_add, Nat.mul_add, ← Nat.mul_assoc] at h2
   omega
theorem nat_Sub.ev {a b : List Int} (ha : Num.okw a = true) (hb : Num.okw b = true) : Ev (fun k => nat_Sub.f k a b) (if Num.nv a < Num.nv b then ([], false) else (Num.nd (Num.nv a - Num.nv b), true)) := by
 obtain ⟨la, wa⟩ := (Num.okw_iff a).1 ha
 obtain ⟨lb, wb⟩ := (Num.okw_iff b).1 hb
 have hc : ∀ k, nat_Compare.f k a b = some (Num.cmp (Num.nv a) (Num.nv b)) := fun k => by unfold nat_Compare.f; rw [if_pos ha, if_pos hb]
 by_cases h : Num.nv a < Num.nv b
 ·rw [if_pos h]
  refine ⟨0, fun k _ => ?_⟩
  show nat_Sub.f k a b = _
  unfold nat_Sub.f
  rw [hc, Num.cmp_lt h]
  rfl
 ·rw [if_neg h]
  have := nat_Sub.ev_l wa wb (by omega) (by omega) a.length 0 (List.replicate a.length 0) 0 (by omega) (by simp) (Num.Ws.replicate _) (by omega) (by simp [Num.nv])
  refine Ev.congr (fun k => ?_) this
  have h0 : ¬ Num.cmp (Num.nv a) (Num.nv b) < 0 := by unfold Num.cmp; rw [if_neg h]; split <;> omega
  unfold nat_Sub.f
  rw [hc]
  simp only [Option.bind_some]
  rw [if_neg h0, if_pos (show (0 : Int) ≤ (a.length : Int) from by omega), Int.toNat_natCast, if_pos (show a.length ≤ 70368744177664 from by omega)]
  simp only [List.length_replicate]
  rfl
set_option synthInstance.checkSynthOrder false in
open Lin in
instance nat_Sub.t {k : Nat} {l0 : List Int} {l1 : List Int} {r : List Int × Bool} [h : Ans (nat_Sub.f k l0 l1) r] : Tl Try.prog 88 [.one (.row l0), .one (.row l1)] (.tup [.one (.row r.1), .one (.val (.bool r.2))]) := ⟨Tells.of Try.func88 fun out w vs ho hl hv => by
 obtain ⟨u0, u1, rfl, h0, h1⟩ := args2 hl hv
 obtain ⟨A0, c0, rfl, hc0, hr0, hb0⟩ := h0
 obtain ⟨A1, c1, rfl, hc1, hr1, hb1⟩ := h1
 refine (nat_Sub.calls k A0 c0 l0 A1 c1 l1 _ _ w hr0 hc0 hr1 hc1 h.out).mono ?_
 rintro e w' ⟨v0_, rfl, gv0_, hb⟩
 exact ⟨_, rfl, tup2 (row_R gv0_ ho) (⟨rfl, rfl⟩), hb⟩⟩
def nat_digit.l0 : Nat → List Int → List Int → Int → Int → Option (Int × List Int)
 | 0, _, _, _, _ => none
 | k + 1, x0, x1, x6, x7 => if x7 ≥ 0 then ((nat_Shift.f k x1 x7).bind fun t166 => ((nat_Sub.f k x0 t166).bind fun bt169 => (if bt169.2 = true then (if 0 ≤ x7 then (nat_digit.l0 k bt169.1 x1 (Go.bits .or .u32 x6 (shl .u32 1 x7)) (wrap64 (x7 - 1))) else (none)) else (nat_digit.l0 k x0 x1 x6 (wrap64 (x7 - 1)))))) else (some (x6, x0))
def nat_digit.f (k : Nat) (l0 : List Int) (l1 : List Int) : Option (Int × List Int) := nat_digit.l0 k l0 l1 0 31
set_option maxHeartbeats 8000000 in
set_option maxRecDepth 100000 in
theorem nat_digit.calls (k : Nat) (P0_ : Nat → Prop) (A0 : Option Addr) (c0 : Nat) (l0 : List Int) (A1 : Option Addr) (c1 : Nat) (l1 : List Int) (r1 : Int) (r2 : List Int) (w : World) (hs0 : Kd.V (Kd.int .u32) 89 w w.heap.size (fun k_ => P0_ k_) (.slice A0 l0.length c0) l0) (hr1 : Kd.C (Kd.int .u32) w A1 l1.length l1) (hc1 : l1.length ≤ c1) (h : nat_digit.f k l0 l1 = some (r1, r2)) :
  Calls Try.prog 89 #[.slice A0 l0.length c0, .slice A1 l1.length c1] w fun e w' => ∃ v1_ : Value, e = .returned (.tuple #[.int .u32 r1, v1_]) ∧ Kd.V (Kd.int .u32) 89 w' w.heap.size (fun k_ => (P0_ k_ ∨ w.heap.size ≤ k_)) v1_ r2 ∧ Below w.heap.size w w' := by
 have HO0 := Aside0.mk (show Kd.V (Kd.int .u32) 89 w w.heap.size (fun k_ => (P0_ k_ ∨ w.heap.size ≤ k_)) (.slice A0 l0.length c0) l0 from Kd.V_mono hs0 (fun k_ hk => .inl hk))
 have HR1 := Aside0.mk hr1
 have HC1 := Aside0.mk hc1
 clear hr1 hc1
 have HB := Aside0.mk (Below.refl w.heap.size w)
 have H : (nat_digit.l0 k l0 l1 0 31) = some (r1, r2) := h
 clear h
 have H' := Aside0.mk H
 clear H
 go_enter Try.func89, Try.ntmps89
 go_wp2
 go_loopg [0, 6, 7] k (fun kq v0 v6 v7 w' => ∃ (x0_1 : List Int) (x6_1 : Int) (x7_1 : Int), v6 = .int .u32 x6_1 ∧ v7 = .int .i64 x7_1 ∧ Aside0 (nat_digit.l0 kq x0_1 l1 x6_1 x7_1 = some (r1, r2)) ∧ Aside0 (kq ≤ k) ∧ Aside0 (Kd.V (Kd.int .u32) 89 w' w.heap.size (fun k_ => (P0_ k_ ∨ w.heap.size ≤ k_)) v0 x0_1) ∧ Aside0 (Below w.heap.size w w'))
 case atStart => exact ⟨(l0), (0), (31), (by first | rfl | (simp; done) | (simp [*]; done)), (by first | rfl | (simp; done) | (simp [*]; done)), H', ⟨Nat.le_refl _⟩, ⟨by (with_reducible repeat (first | apply Kd.V_alloc | apply Kd.V_drewN | apply Kd.V_drew)); exact HO0.out⟩, ⟨by repeat (first | (with_reducible first | exact HB.out | apply below_alloc | apply pw_below_drewN | apply below_drew1) | exact HB.out)⟩⟩
 case round =>
  clear H'
  try clear c1
  try clear p2
  obtain ⟨x0_1, x6_1, x7_1, rfl, rfl, HA, HK1, HO_0, HB⟩ := hrel
  cases gk with
  | zero => exact absurd HA.out (by simp [nat_digit.l0])
  | succ k1 =>
   have H := HA.out
   clear HA
   simp only [nat_digit.l0] at H
   by_cases c3 : x7_1 ≥ 0
   ·rw [if_pos c3] at H
    have c3b0 : decide (0 ≤ x7_1) = true := decide_eq_true c3
    clear c3
    replace H := Option.bind_eq_some_iff.mp H
    obtain ⟨t166, A40, H⟩ := H
    try dsimp only at H
    have A4 := Aside0.mk A40
    clear A40
    replace H := Option.bind_eq_some_iff.mp H
    obtain ⟨⟨t169, t170⟩, A50, H⟩ := H
    try dsimp only at H
    have A5 := Aside0.mk A50
    clear A50
    by_cases c6 : t170 = true
    ·subst c6
     have H1 : (if 0 ≤ x7_1 then (nat_digit.l0 k1 t169 l1 (Go.bits .or .u32 x6_1 (shl .u32 1 x7_1)) (wrap64 (x7_1 - 1))) else (none)) = some (r1, r2) := by rw [if_pos rfl] at H; exact H
     clear H
     have H := H1
     clear H1
     by_cases c7 : 0 ≤ x7_1
     ·rw [if_pos c7] at H
      have c7b0 := eq_true c7
      have c7b1 : decide (0 ≤ x7_1) = true := decide_eq_true c7
      clear c7
      obtain ⟨ji8, hji8⟩ : ∃ j_ : Int, (shl .u32 1 x7_1) = j_ := ⟨_, rfl⟩
      replace H : (nat_digit.l0 k1 t169 l1 (Go.bits .or .u32 x6_1 (ji8)) (wrap64 (x7_1 - 1))) = some (r1, r2) := by first | (rw [hji8] at H; exact H) | (simp only [hji8] at H ⊢; exact H)
      (try rw [hji8] at A4)
      (try rw [hji8] at A5)
      have hji8_ : (IntKind.u32.wrap (1 * 2 ^ min x7_1.toNat 32)) = ji8 := hji8
      have hji8z : x7_1 ≤ 32 → (IntKind.u32.wrap (1 * 2 ^ x7_1.toNat)) = ji8 := shl_small hji8
      have hji8u : (IntKind.u32.wrap (2 ^ min x7_1.toNat 32)) = ji8 := by have h_ := hji8_; rw [Int.one_mul] at h_; exact h_
      have hji8v : x7_1 ≤ 32 → (IntKind.u32.wrap (2 ^ x7_1.toNat)) = ji8 := fun hle_ => by have h_ := hji8z hle_; rw [Int.one_mul] at h_; exact h_
      have H' := Aside0.mk H
      clear H
      go_wp2_with (first | ((with_reducible refine gate_callee (f := 79) rfl ?_); refine Short.goesS_ (some 18) Try.func79 #[.slice A1 l1.length c1, .int .i64 x7_1] ?_; (with_reducible refine (nat_Shift.calls k1 _ _ l1 x7_1 t166 _ (Kd.C_below HR1.out HB.out) HC1.out A4.out).mono ?_); rintro e w9 ⟨v167, rfl, ho0, hb⟩; refine ⟨_, rfl, ?_⟩; replace HO_0 := Aside0.mk (Kd.V_elder' HO_0.out (Kd.R_base ho0) hb); have HO168 := Aside0.mk (Kd.R_lower (Kd.R_newM (M := fun k_ => (w.heap.size ≤ k_)) ho0 (below_size (by repeat (first | (with_reducible first | exact HB.out | apply below_alloc | apply pw_below_drewN | apply below_drew1) | exact HB.out))) (fun k_ h_ => h_)) (below_size (by repeat (first | (with_reducible first | exact HB.out | apply below_alloc | apply pw_below_drewN | apply below_drew1) | exact HB.out)))); replace HB := Aside0.mk (below_step (by repeat (first | (with_reducible first | exact HB.out | apply below_alloc | apply pw_below_drewN | apply below_drew1) | exact HB.out)) hb); (try clear hb); (try clear ho0); obtain ⟨Ao10, co10, eo10⟩ := Kd.V_slice HO_0.out; subst eo10; obtain ⟨Ao11, co11, eo11⟩ := Kd.R_slice HO168.out; subst eo11) | ((with_reducible refine gate_callee (f := 88) rfl ?_); refine Short.goesS_ (some 19) Try.func88 #[.slice Ao10 x0_1.length co10, .slice Ao11 t166.length co11] ?_; (with_reducible refine (nat_Sub.calls k1 _ _ x0_1 _ _ t166 t169 true _ ((Kd.V_reads' HO_0.out).2.2) ((Kd.V_reads' HO_0.out).2.1) ((Kd.R_reads' HO168.out).2.2) ((Kd.R_reads' HO168.out).2.1) A5.out).mono ?_); rintro e w12 ⟨v171, rfl, ho0, hb⟩; refine ⟨_, rfl, ?_⟩; replace HO_0 := Aside0.mk (Kd.V_elder' HO_0.out (Kd.R_base ho0) hb); have HO172 := Aside0.mk (Kd.R_lower (Kd.R_new' (Kd.R_newM (M := fun k_ => (w.heap.size ≤ k_)) ho0 (below_size (by repeat (first | (with_reducible first | exact HB.out | apply below_alloc | apply pw_below_drewN | apply below_drew1) | exact HB.out))) (fun k_ h_ => h_)) (Kd.R_lt HO168.out)) (below_size (by repeat (first | (with_reducible first | exact HB.out | apply below_alloc | apply pw_below_drewN | apply below_drew1) | exact HB.out)))); replace HO168 := Aside0.mk (Kd.R_elder' HO168.out (Kd.R_base ho0) hb); replace HB := Aside0.mk (below_step (by repeat (first | (with_reducible first | exact HB.out | apply below_alloc | apply pw_below_drewN | apply below_drew1) | exact HB.out)) hb); (try clear hb); (try clear ho0)))
      go_roundg k1
      case measure => have := HK1.out; omega
      case rel => exact ⟨(t169), (Go.bits .or .u32 x6_1 (ji8)), (wrap64 (x7_1 - 1)), (by first | rfl | (simp; done) | (simp only [← hji8] <;> (first | rfl | simp)) | (simp [*]; done)), (by first | rfl | (simp; done) | (simp [*]; done)), H', ⟨by have := HK1.out; omega⟩, ⟨Kd.V_mono (Kd.R_V (by (with_reducible repeat (first | apply Kd.R_alloc | apply Kd.R_drewN | apply Kd.R_drew)); exact Kd.R_mono HO172.out (fun _ hk => hk.1.1))) (fun k_ hk => by first | exact ⟨(.inr (hk.1)), hk.2⟩ | exact (.inr (hk)))⟩, ⟨by repeat (first | (with_reducible first | exact HB.out | apply below_alloc | apply pw_below_drewN | apply below_drew1) | exact HB.out)⟩⟩
     ·rw [if_neg c7] at H
      exact absurd H (by simp)
    ·replace c6 := Bool.eq_false_iff.mpr c6
     subst c6
     have H1 : (nat_digit.l0 k1 x0_1 l1 x6_1 (wrap64 (x7_1 - 1))) = some (r1, r2) := by rw [if_neg (show ¬ (false = true) by decide)] at H; exact H
     clear H
     have H := H1
     clear H1
     have H' := Aside0.mk H
     clear H
     go_wp2_with (first | ((with_reducible refine gate_callee (f := 79) rfl ?_); refine Short.goesS_ (some 18) Try.func79 #[.slice A1 l1.length c1, .int .i64 x7_1] ?_; (with_reducible refine (nat_Shift.calls k1 _ _ l1 x7_1 t166 _ (Kd.C_below HR1.out HB.out) HC1.out A4.out).mono ?_); rintro e w13 ⟨v167, rfl, ho0, hb⟩; refine ⟨_, rfl, ?_⟩; replace HO_0 := Aside0.mk (Kd.V_elder' HO_0.out (Kd.R_base ho0) hb); have HO168 := Aside0.mk (Kd.R_lower (Kd.R_newM (M := fun k_ => (w.heap.size ≤ k_)) ho0 (below_size (by repeat (first | (with_reducible first | exact HB.out | apply below_alloc | apply pw_below_drewN | apply below_drew1) | exact HB.out))) (fun k_ h_ => h_)) (below_size (by repeat (first | (with_reducible first | exact HB.out | apply below_alloc | apply pw_below_drewN | apply below_drew1) | exact HB.out)))); replace HB := Aside0.mk (below_step (by repeat (first | (with_reducible first | exact HB.out | apply below_alloc | apply pw_below_drewN | apply below_drew1) | exact HB.out)) hb); (try clear hb); (try clear ho0); obtain ⟨Ao14, co14, eo14⟩ := Kd.V_slice HO_0.out; subst eo14; obtain ⟨Ao15, co15, eo15⟩ := Kd.R_slice HO168.out; subst eo15) | ((with_reducible refine gate_callee (f := 88) rfl ?_); refine Short.goesS_ (some 19) Try.func88 #[.slice Ao14 x0_1.length co14, .slice Ao15 t166.length co15] ?_; (with_reducible refine (nat_Sub.calls k1 _ _ x0_1 _ _ t166 t169 false _ ((Kd.V_reads' HO_0.out).2.2) ((Kd.V_reads' HO_0.out).2.1) ((Kd.R_reads' HO168.out).2.2) ((Kd.R_reads' HO168.out).2.1) A5.out).mono ?_); rintro e w16 ⟨v171, rfl, ho0, hb⟩; refine ⟨_, rfl, ?_⟩; replace HO_0 := Aside0.mk (Kd.V_elder' HO_0.out (Kd.R_base ho0) hb); have HO172 := Aside0.mk (Kd.R_lower (Kd.R_new' (Kd.R_newM (M := fun k_ => (w.heap.size ≤ k_)) ho0 (below_size (by repeat (first | (with_reducible first | exact HB.out | apply below_alloc | apply pw_below_drewN | apply below_drew1) | exact HB.out))) (fun k_ h_ => h_)) (Kd.R_lt HO168.out)) (below_size (by repeat (first | (with_reducible first | exact HB.out | apply below_alloc | apply pw_below_drewN | apply below_drew1) | exact HB.out)))); replace HO168 := Aside0.mk (Kd.R_elder' HO168.out (Kd.R_base ho0) hb); replace HB := Aside0.mk (below_step (by repeat (first | (with_reducible first | exact HB.out | apply below_alloc | apply pw_below_drewN | apply below_drew1) | exact HB.out)) hb); (try clear hb); (try clear ho0)))
     go_roundg k1
     case measure => have := HK1.out; omega
     case rel => exact ⟨(x0_1), (x6_1), (wrap64 (x7_1 - 1)), (by first | rfl | (simp; done) | (simp [*]; done)), (by first | rfl | (simp; done) | (simp [*]; done)), H', ⟨by have := HK1.out; omega⟩, ⟨by (with_reducible repeat (first | apply Kd.V_alloc | apply Kd.V_drewN | apply Kd.V_drew)); exact Kd.V_mono HO_0.out (fun _ hk => hk.1.1)⟩, ⟨by repeat (first | (with_reducible first | exact HB.out | apply below_alloc | apply pw_below_drewN | apply below_drew1) | exact HB.out)⟩⟩
   ·rw [if_neg c3] at H
    have c3b0 : decide (0 ≤ x7_1) = false := decide_eq_false c3
    clear c3
    simp only [Option.some.injEq, Prod.mk.injEq] at H
    obtain ⟨rfl, rfl⟩ := H
    go_wp2
    go_ret2
    exact ⟨_, by rfl, by (with_reducible repeat (first | apply Kd.V_alloc | apply Kd.V_drewN | apply Kd.V_drew)); exact HO_0.out, by repeat (first | (with_reducible first | exact HB.out | apply below_alloc | apply pw_below_drewN | apply below_drew1) | exact HB.out)⟩

theorem nat_digit.or_sum {r x y : Nat} (hr : r ≤ 32) (hx : x < 2 ^ r) (hy : y % 2 ^ r = 0) (hy1 : y < 4294967296) : Go.bits .or .u32 (y : Int) (x : Int) = ((y + x : Nat) : Int) := by
 have hc : Go.bits .or .u32 (y : Int) (x : Int) = Go.bits .or .u32 (x : Int) (y : Int) := by simp only [bits, BitVec.or_comm]
 rw [hc, nat_Shift.or_sum hr hx hy hy1, Nat.add_comm]
theorem nat_digit.ev_l {b : List Int} (hb : Num.Ws b) (hlb : b.length < 549755813890) (h0 : Num.nv b ≠ 0) (m : Nat) : ∀ (A Q : Nat), m ≤ 32 → A < 2 ^ m * Num.nv b → Q % 2 ^ m = 0 → Q < 4294967296 →
  Ev (fun k => nat_digit.l0 k (Num.nd A) b (Q : Int) ((m : Int) - 1)) (((Q + A / Num.nv b : Nat) : Int), Num.nd (A % Num.nv b)) := by
 have hB := Num.nv_lt hb
 obtain ⟨B, hBe⟩ : ∃ B, B = Num.nv b := ⟨_, rfl⟩
 rw [← hBe] at hB h0 ⊢
 have hokb : Num.okw b = true := Num.okw_of (by omega) hb
 have hok : ∀ n : Nat, n < 2 ^ 32 * B → Num.okw (Num.nd n) = true := by
  intro n hn
  refine Num.okw_of ?_ (Num.Ws_nd n)
  have h1 : n < 2 ^ (32 * (b.length + 1)) := by
   rw [Num.pow_succ32]
   have := Nat.mul_lt_mul_of_pos_left hB (show 0 < 2 ^ 32 from by decide)
   rw [Nat.mul_comm (2 ^ (32 * b.length))]
   exact Nat.lt_trans hn this
  have := Num.nd_length_le h1
  omega
 induction m with
 | zero =>
  intro A Q hm hA hQ hQ1
  rw [Nat.pow_zero, Nat.one_mul] at hA
  rw [Nat.div_eq_of_lt hA, Nat.mod_eq_of_lt hA]
  refine Ev.step (f := fun _ => some ((Q : Int), Num.nd A)) (fun k => ?_) (Ev.now _)
  simp only [nat_digit.l0]
  rw [if_neg (by omega)]
 | succ m ih =>
  intro A Q hm hA hQ hQ1
  have hp : 2 ^ m ≤ 2 ^ 31 := Nat.pow_le_pow_right (by omega) (by omega)
  have hm31 : m ≤ 31 := by omega
  have hpB : 2 ^ m * B ≤ 2 ^ 31 * B := Nat.mul_le_mul_right _ hp
  have hA32 : A < 2 ^ 32 * B := by
   have : 2 ^ (m + 1) * B ≤ 2 ^ 32 * B := Nat.mul_le_mul_right _ (Nat.pow_le_pow_right (by omega) hm)
   omega
  have hS32 : 2 ^ m * B < 2 ^ 32 * B := by
   have : 0 < B := by omega
   omega
  have hsh := nat_Shift.ev hokb (show m ≤ 65536 from by omega)
  rw [← hBe] at hsh
  have hsub := nat_Sub.ev (hok A hA32) (hok _ hS32)
  rw [Num.nv_nd, Num.nv_nd] at hsub
  have hdvd : 2 ^ m ∣ Q := Nat.dvd_trans (Nat.pow_dvd_pow 2 (Nat.le_succ m)) (Nat.dvd_of_mod_eq_zero hQ)
  have hQm : Q % 2 ^ m = 0 := Nat.mod_eq_zero_of_dvd hdvd
  have c1 : ((m + 1 : Nat) : Int) - 1 ≥ 0 := by omega
  have e1 : ((m + 1 : Nat) : Int) - 1 = (m : Int) := by omega
  have e2 : wrap64 ((m : Int) - 1) = (m : Int) - 1 := nat_trim.w64 (by omega) (by omega)
  refine Ev.step (f := fun k => (nat_Shift.f k b (m : Int)).bind fun t157 => ((nat_Sub.f k (Num.nd A) t157).bind fun bt160 => (if bt160.2 = true then (if 0 ≤ (m : Int) then (nat_digit.l0 k bt160.1 b (Go.bits .or .u32 (Q : Int) (shl .u32 1 (m : Int))) (wrap64 ((m : Int) - 1))) else (none)) else (nat_digit.l0 k (Num.nd A) b (Q : Int) (wrap64 ((m : Int) - 1)))))) (fun k => ?_) ?_
  ·simp only [nat_digit.l0]
   rw [if_pos c1, e1]
  ·refine Ev.bind hsh (Ev.bind hsub ?_)
   by_cases hlt : A < 2 ^ m * B
   ·rw [if_pos hlt]
    refine Ev.congr (fun k => ?_) (ih A Q (by omega) hlt hQm hQ1)
    simp only [Bool.false_eq_true, if_false]
    rw [e2]
   ·rw [if_neg hlt]
    have hA' : A - 2 ^ m * B < 2 ^ m * B := by
     rw [Nat.pow_succ, Nat.mul_right_comm] at hA
     omega
    have hQ2 : Q + 2 ^ m < 4294967296 := by
     obtain ⟨u, hu⟩ := Nat.dvd_of_mod_eq_zero hQ
     obtain ⟨v, hv⟩ : 2 ^ (m + 1) ∣ 4294967296 := Nat.pow_dvd_pow 2 (show m + 1 ≤ 32 from hm)
     have hpp : 2 ^ (m + 1) = 2 ^ m * 2 := Nat.pow_succ 2 m
     have hpos : 0 < 2 ^ m := Nat.two_pow_pos m
     rw [hu, hv] at hQ1
     have h1 := Nat.lt_of_mul_lt_mul_left hQ1
     have h2 := Nat.mul_le_mul_left (2 ^ (m + 1)) (show u + 1 ≤ v from h1)
     rw [Nat.mul_add, ← hv, ← hu] at h2
     omega
    have hshl : shl .u32 1 (m : Int) = ((2 ^ m : Nat) : Int) := by
     unfold shl
     rw [Int.toNat_natCast, show min m IntKind.u32.bits = m from Nat.min_eq_left (show m ≤ 32 from by omega), Int.one_mul]
     have e : (2 : Int) ^ m = ((2 ^ m : Nat) : Int) := by rw [Int.natCast_pow]; rfl
     have w : ∀ n : Int, IntKind.u32.wrap n = n % 4294967296 := fun n => by simp [IntKind.wrap, IntKind.bits, IntKind.signed]
     rw [e, w]
     omega
    have hor : Go.bits .or .u32 (Q : Int) ((2 ^ m : Nat) : Int) = ((Q + 2 ^ m : Nat) : Int) := nat_digit.or_sum (r := m + 1) (by omega) (Nat.pow_lt_pow_right (by omega) (by omega)) hQ hQ1
    have hdiv : Q + A / B = Q + 2 ^ m + (A - 2 ^ m * B) / B := by
     have : A = A - 2 ^ m * B + 2 ^ m * B := by omega
     conv => lhs; rw [this, Nat.add_mul_div_right _ _ (by omega)]
     omega
    have hmod : A % B = (A - 2 ^ m * B) % B := by
     have : A = A - 2 ^ m * B + 2 ^ m * B := by omega
     conv => lhs; rw [this, Nat.add_mul_mod_self_right]
    rw [hdiv, hmod]
    refine Ev.congr (fun k => ?_) (ih (A - 2 ^ m * B) (Q + 2 ^ m) (by omega) hA' (by rw [Nat.add_mod_right]; exact hQm) hQ2)
    simp only [if_true]
    rw [if_pos (Int.natCast_nonneg m), hshl, hor, e2]
theorem nat_digit.ev {b : List Int} (hb : Num.Ws b) (hlb : b.length < 549755813890) (h0 : Num.nv b ≠ 0) (A : Nat) (hA : A < 4294967296 * Num.nv b) : Ev (fun k => nat_digit.f k (Num.nd A) b) (((A / Num.nv b : Nat) : Int), Num.nd (A % Num.nv b)) := by
 have := nat_digit.ev_l hb hlb h0 32 A 0 (by omega) hA (by decide) (by omega)
 rw [Nat.zero_add] at this
 exact this
section
def nat_DivMod.f (_k : Nat) (l0 : List Int) (l1 : List Int) : Option (List Int × List Int × Int) := if Num.okd l0 = true then (if Num.okd l1 = true then (if Num.nv l1 = 0 then some ([], [], 5) else some (Num.nd (Num.nv l0 / Num.nv l1), Num.nd (Num.nv l0 % Num.nv l1), 0)) else none) else none
def nat_DivMod.st (z : List Int) (B : Nat) (pre : List Nat) : Nat × List Int := pre.foldl (fun s j => ((s.1 * 4294967296 + (Back.wd z j).toNat) % B, s.2.set (Back.ix z.length j) (((s.1 * 4294967296 + (Back.wd z j).toNat) / B : Nat) : Int))) (0, List.replicate z.length 0)
theorem nat_DivMod.st_snoc (z : List Int) (B : Nat) (pre : List Nat) (x : Nat) : nat_DivMod.st z B (pre ++ [x]) = (((nat_DivMod.st z B pre).1 * 4294967296 + (Back.wd z x).toNat) % B, (nat_DivMod.st z B pre).2.set (Back.ix z.length x) ((((nat_DivMod.st z B pre).1 * 4294967296 + (Back.wd z x).toNat) / B : Nat) : Int)) := by simp [nat_DivMod.st]
theorem nat_DivMod.st_lt (z : List Int) {B : Nat} (h : B ≠ 0) (pre : List Nat) : (nat_DivMod.st z B pre).1 < B := by
 rcases List.eq_nil_or_concat pre with rfl | ⟨ini, x, rfl⟩
 ·simp only [nat_DivMod.st, List.foldl_nil]; omega
 ·rw [List.concat_eq_append, nat_DivMod.st_snoc]; exact Nat.mod_lt _ (by omega)
theorem nat_DivMod.u32_nat (n : Nat) (h : n < 4294967296) : IntKind.u32.wrap (n : Int) = (n : Int) := by
 have : ∀ x : Int, IntKind.u32.wrap x = x % 4294967296 := fun x => by simp [IntKind.wrap, IntKind.bits, IntKind.signed]
 rw [this, mod32_nat, Nat.mod_eq_of_lt h]
theorem nat_DivMod.quo32 (m B : Nat) (hd : m / B < 4294967296) : (Value.int .u32 (IntKind.u32.wrap (IntKind.u64.wrap ((m : Int) / (B : Int))))) = Value.int .u32 ((m / B : Nat) : Int) := by
 have hx : m / B < 18446744073709551616 := by omega
 have ht : (m : Int) / (B : Int) = ((m / B : Nat) : Int) := rfl
 generalize m / B = x at hd hx ht ⊢
 rw [ht, u64_nat x hx, nat_DivMod.u32_nat x hd]
/-- Long division, the highest word first: plain law. -/
theorem nat_DivMod.st_range (z : List Int) (hz : Num.Ws z) {B : Nat} (hB : B ≠ 0) : ∀ k, k ≤ z.length → ∃ qs, qs.length = k ∧ Num.Ws qs ∧ Num.nv qs = Num.nv (z.drop (z.length - k)) / B ∧ nat_DivMod.st z B (List.range k) = (Num.nv (z.drop (z.length - k)) % B, List.replicate (z.length - k) 0 ++ qs)
 | 0, _ => ⟨[], rfl, Num.Ws.nil, by simp [Num.nv], by simp [nat_DivMod.st, Num.nv]⟩
 | k + 1, hk => by
  obtain ⟨qs, h1, h2, h3, h4⟩ := nat_DivMod.st_range z hz hB k (by omega)
  obtain ⟨q, hq⟩ : ∃ q, q = z.length - (k + 1) := ⟨_, rfl⟩
  have hq1 : z.length - k = q + 1 := by omega
  have hql : q < z.length := by omega
  have hix : Back.ix z.length k = q := by unfold Back.ix; omega
  have hd : z.drop q = z[q] :: z.drop (q + 1) := List.drop_eq_getElem_cons hql
  have hw : Back.wd z k = z[q] := by unfold Back.wd; rw [hix, List.getElem?_eq_getElem hql]; rfl
  have hw2 := hz _ (List.getElem_mem hql)
  rw [hq1] at h3 h4
  rw [List.range_succ, nat_DivMod.st_snoc, h4, ← hq, hix, hw, hd]
  simp only [Num.nv]
  obtain ⟨u, hu⟩ : ∃ u : Nat, u = z[q].toNat := ⟨_, rfl⟩
  obtain ⟨D, hD⟩ : ∃ D, D = Num.nv (z.drop (q + 1)) := ⟨_, rfl⟩
  have hu32 : u < 4294967296 := by omega
  rw [← hu, ← hD]
  rw [← hD] at h3
  have hsum : u + 4294967296 * D = (D % B * 4294967296 + u) + B * (4294967296 * (D / B)) := by
   have h := congrArg (fun x => 4294967296 * x) (Nat.div_add_mod D B)
   simp only [Nat.mul_add] at h
   have h' := Nat.mul_left_comm B 4294967296 (D / B)
   omega
  have hlt : D % B * 4294967296 + u < B * 4294967296 := by
   have := Nat.mod_lt D (Nat.pos_of_ne_zero hB)
   have := Nat.mul_le_mul_right 4294967296 (show D % B + 1 ≤ B from this)
   omega
  have hdv : (D % B * 4294967296 + u) / B < 4294967296 := Nat.div_lt_of_lt_mul hlt
  obtain ⟨v, hv⟩ : ∃ v, v = (D % B * 4294967296 + u) / B := ⟨_, rfl⟩
  rw [← hv] at hdv
  rw [← hv]
  refine ⟨(v : Int) :: qs, by simp [h1], Num.Ws.cons (by omega) (by omega) h2, ?_, ?_⟩
  ·simp only [Num.nv, Int.toNat_natCast]
   rw [h3, hsum, Nat.add_mul_div_left _ _ (Nat.pos_of_ne_zero hB), ← hv]
  ·rw [hsum, Nat.add_mul_mod_self_left]
   congr 1
   rw [List.replicate_succ', List.append_assoc, List.set_append_right _ _ (by simp)]
   simp
open Go.Shelf Back Go.Proofs.YtcdkopidgibijaaW.PrintLast in
attribute [local go_sem] Oper.semAt_some in
set_option maxHeartbeats 8000000 in
set_option maxRecDepth 100000 in
/-- out[k] = uint32(n / uint64(b[0])). -/
theorem nat_DivMod.reg12 (l Bb Bo Br q m B b1 off1 go zl cz1 ol co : Nat) {y0 y1 y2 y4 y5 y6 y10 y12 y13 y14 y15 y16 y17 y18 y19 y20 y21 y22 y23 y24 y25 y26 y27 y28 y29 y30 y31 y32 y33 y34 y35 y36 y37 y38 y39 y40 y41 y42 y43 y44 y45 y46 y47 y48 y49 y50 y51 y52 y53 y54 y55 y56 y57 y58 y59 y60 y61 y62 y63 y64 y65 y66 y67 y68 : Value} (W : World) (v0 : Value)
  (hcB : W.cell? ⟨Bb, 0, none⟩ = some (.slice (some ⟨b1, off1, none⟩) zl cz1)) (hcO : W.cell? ⟨Bo, 0, none⟩ = some (.slice (some ⟨go, 0, none⟩) ol co)) (hcz : W.cell? ⟨b1, off1, none⟩ = some (.int .u32 (B : Int)))
  (hcq : W.cell? ⟨go, q, none⟩ = some v0) (hfq : W.frozen? ⟨go, q, none⟩ = false) (hB0 : B ≠ 0) (hB32 : B < 4294967296) (hmB : m < 4294967296 * B) (hq : (q : Int) < (ol : Int)) (hz : (0 : Int) < (zl : Int)) :
  (Code.region 12 (opsOf Try.f70 12) true : Code).wpIn (Fence.wide.inRound l) 1 Try.prog (Back.only fun a W12 => ∃ x40 x41 x42 x43 x44 x45 x46 x47 x48 x49 : Value, a = { tmps := (y0 :: y1 :: y2 :: Value.pointer (some ⟨Bb, 0, none⟩) :: y4 :: y5 :: y6 :: Value.pointer (some ⟨Bo, 0, none⟩) :: Value.pointer (some ⟨Br, 0, none⟩) :: Value.int .i64 (q : Int) :: y10 :: Value.int .u64 (m : Int) :: y12 :: y13 :: y14 :: y15 :: y16 :: y17 :: y18 :: y19 :: y20 :: y21 :: y22 :: y23 :: y24 :: y25 :: y26 :: y27 :: y28 :: y29 :: y30 :: y31 :: y32 :: y33 :: y34 :: y35 :: y36 :: y37 :: y38 :: y39 :: x40 :: x41 :: x42 :: x43 :: x44 :: x45 :: x46 :: x47 :: x48 :: x49 :: y50 :: y51 :: y52 :: y53 :: y54 :: y55 :: y56 :: y57 :: y58 :: y59 :: y60 :: y61 :: y62 :: y63 :: y64 :: y65 :: y66 :: y67 :: y68 :: []).toArray, defers := [] } ∧ W12 = W.drew.setCell ⟨go, q, none⟩ (.int .u32 ((m / B : Nat) : Int))) { tmps := (y0 :: y1 :: y2 :: Value.pointer (some ⟨Bb, 0, none⟩) :: y4 :: y5 :: y6 :: Value.pointer (some ⟨Bo, 0, none⟩) :: Value.pointer (some ⟨Br, 0, none⟩) :: Value.int .i64 (q : Int) :: y10 :: Value.int .u64 (m : Int) :: y12 :: y13 :: y14 :: y15 :: y16 :: y17 :: y18 :: y19 :: y20 :: y21 :: y22 :: y23 :: y24 :: y25 :: y26 :: y27 :: y28 :: y29 :: y30 :: y31 :: y32 :: y33 :: y34 :: y35 :: y36 :: y37 :: y38 :: y39 :: y40 :: y41 :: y42 :: y43 :: y44 :: y45 :: y46 :: y47 :: y48 :: y49 :: y50 :: y51 :: y52 :: y53 :: y54 :: y55 :: y56 :: y57 :: y58 :: y59 :: y60 :: y61 :: y62 :: y63 :: y64 :: y65 :: y66 :: y67 :: y68 :: []).toArray, defers := [] } W := by
 have hwB : IntKind.u64.wrap (B : Int) = (B : Int) := u64_nat B (by omega)
 have hB0b : ((B : Int) == 0) = false := by simpa using hB0
 have hBpos : (1 : Int) ≤ (B : Int) := by omega
 have hq0 : 0 ≤ (q : Int) := by omega
 have hqn : q < ol := by omega
 have hzn : 0 < zl := by omega
 have hd : m / B < 4294967296 := Nat.div_lt_of_lt_mul (by rw [Nat.mul_comm]; exact hmB)
 have hval := nat_DivMod.quo32 m B hd
 simp only [opsOf, opsIn, Try.f70, Option.bind_some, Option.bind]
 refine Mem.startR_ (N := 11) (S := (fun w' => w'.cell? ⟨Bo, 0, none⟩ = some (.slice (some ⟨go, 0, none⟩) ol co) ∧ w'.cell? ⟨Bb, 0, none⟩ = some (.slice (some ⟨b1, off1, none⟩) zl cz1) ∧ w'.cell? ⟨b1, off1, none⟩ = some (.int .u32 (B : Int)))) (ds := [10]) #[false, false, false, false, false, false, false, false, false, false, false] (by kernel_rfl) (by kernel_rfl) rfl rfl ⟨hcO, hcB, hcz⟩ (fun hHeld => ?_)
 replace hcq : W.drew.cell? ⟨go, q, none⟩ = some v0 := hcq
 replace hfq : W.drew.frozen? ⟨go, q, none⟩ = false := hfq
 generalize W.drew = W1 at hHeld hcq hfq ⊢
 refine Short.takeS_ (i := 0) (N := some 40) #[true, false, false, false, false, false, false, false, false, false, false] (by kernel_rfl) hHeld ?_
 refine Short.pureS_ (i := 1) (N := some 41) #[true, true, false, false, false, false, false, false, false, false, false] (by kernel_rfl) ?_
 refine Short.pureS_ (i := 2) (N := some 42) #[true, true, true, false, false, false, false, false, false, false, false] (by kernel_rfl) ?_
 refine Short.takeS_ (i := 3) (N := some 43) #[true, true, true, true, false, false, false, false, false, false, false] (by kernel_rfl) hHeld ?_
 refine Short.pureS_ (i := 4) (N := some 44) #[true, true, true, true, true, false, false, false, false, false, false] (by kernel_rfl) ?_
 refine Short.takeS_ (i := 5) (N := some 45) #[true, true, true, true, true, true, false, false, false, false, false] (by kernel_rfl) hHeld ?_
 refine Short.pureS_ (i := 6) (N := some 46) #[true, true, true, true, true, true, true, false, false, false, false] (by kernel_rfl) ?_
 refine Short.pureS_ (i := 7) (N := some 47) #[true, true, true, true, true, true, true, true, false, false, false] (by kernel_rfl) ?_
 refine Short.pureS_ (i := 8) (N := some 48) #[true, true, true, true, true, true, true, true, true, false, false] (by kernel_rfl) ?_
 refine Short.pureS_ (i := 9) (N := some 49) #[true, true, true, true, true, true, true, true, true, true, false] (by kernel_rfl) ?_
 refine last_ (i := 10) (N := none) #[true, true, true, true, true, true, true, true, true, true, true] rfl rfl (by kernel_rfl) (by decide) (fun K hK => ?_)
 refine skip_ (w1 := ?_) (by rfl) rfl ?_ ?_
 rotate_left
 ·go_simp
  rfl
 refine hK.out _ _ ?_
 clear hK K
 refine done_ (by kernel_rfl) ?_
 exact ⟨_, _, _, _, _, _, _, _, _, _, rfl, by first | rw [hval] | rfl⟩
open Go.Shelf Back Go.Proofs.YtcdkopidgibijaaW.PrintLast in
attribute [local go_sem] Oper.semAt_some in
set_option maxHeartbeats 8000000 in
set_option maxRecDepth 100000 in
/-- out[k], rest = digit(rest, b). -/
theorem nat_DivMod.reg14 (l Bb Bo Br q m B N5 go cz1 ol co c2 kd : Nat) (Az1 A2 : Option Addr) (z1 : List Int) {y0 y1 y2 y4 y5 y6 y10 y11 y12 y13 y14 y15 y16 y17 y18 y19 y20 y21 y22 y23 y24 y25 y26 y27 y28 y29 y30 y31 y32 y33 y34 y35 y36 y37 y38 y39 y40 y41 y42 y43 y44 y45 y46 y47 y48 y49 y50 y51 y52 y53 y54 y55 y56 y57 y58 y59 y60 y61 y62 y63 y64 y65 y66 y67 y68 : Value} (W : World) (v0 : Value)
  (hcB : W.cell? ⟨Bb, 0, none⟩ = some (.slice Az1 z1.length cz1)) (hcO : W.cell? ⟨Bo, 0, none⟩ = some (.slice (some ⟨go, 0, none⟩) ol co)) (hcR : W.cell? ⟨Br, 0, none⟩ = some (.slice A2 (Num.nd m).length c2)) (hfR : W.frozen? ⟨Br, 0, none⟩ = false)
  (hR1 : Kd.C (Kd.int .u32) W Az1 z1.length z1) (hC1 : z1.length ≤ cz1) (hV : Kd.V (Kd.int .u32) 89 W W.heap.size (fun k => N5 ≤ k) (.slice A2 (Num.nd m).length c2) (Num.nd m))
  (hcq : W.cell? ⟨go, q, none⟩ = some v0) (hfq : W.frozen? ⟨go, q, none⟩ = false) (hq : (q : Int) < (ol : Int)) (h5 : N5 ≤ W.heap.size) (hlO : Bo < W.heap.size) (hlB : Bb < W.heap.size) (hlr : Br < W.heap.size) (hlo : go < W.heap.size) (hne : Br ≠ go)
  (hdig : nat_digit.f kd (Num.nd m) z1 = some (((m / B : Nat) : Int), Num.nd (m % B))) :
  (Code.region 14 (opsOf Try.f70 14) true : Code).wpIn (Fence.wide.inRound l) 1 Try.prog (Back.only fun a W12 => ∃ x57 x58 x59 x60 x61 x62 x63 x64 x65 : Value, ∃ v1 w10, a = { tmps := (y0 :: y1 :: y2 :: Value.pointer (some ⟨Bb, 0, none⟩) :: y4 :: y5 :: y6 :: Value.pointer (some ⟨Bo, 0, none⟩) :: Value.pointer (some ⟨Br, 0, none⟩) :: Value.int .i64 (q : Int) :: y10 :: y11 :: y12 :: y13 :: y14 :: y15 :: y16 :: y17 :: y18 :: y19 :: y20 :: y21 :: y22 :: y23 :: y24 :: y25 :: y26 :: y27 :: y28 :: y29 :: y30 :: y31 :: y32 :: y33 :: y34 :: y35 :: y36 :: y37 :: y38 :: y39 :: y40 :: y41 :: y42 :: y43 :: y44 :: y45 :: y46 :: y47 :: y48 :: y49 :: y50 :: y51 :: y52 :: y53 :: y54 :: y55 :: y56 :: x57 :: x58 :: x59 :: x60 :: x61 :: x62 :: x63 :: x64 :: x65 :: y66 :: y67 :: y68 :: []).toArray, defers := [] } ∧ W12 = (w10.setCell ⟨go, q, none⟩ (.int .u32 ((m / B : Nat) : Int))).setCell ⟨Br, 0, none⟩ v1 ∧ Below W.heap.size W w10 ∧ Kd.V (Kd.int .u32) 89 w10 0 (fun k => N5 ≤ k) v1 (Num.nd (m % B))) { tmps := (y0 :: y1 :: y2 :: Value.pointer (some ⟨Bb, 0, none⟩) :: y4 :: y5 :: y6 :: Value.pointer (some ⟨Bo, 0, none⟩) :: Value.pointer (some ⟨Br, 0, none⟩) :: Value.int .i64 (q : Int) :: y10 :: y11 :: y12 :: y13 :: y14 :: y15 :: y16 :: y17 :: y18 :: y19 :: y20 :: y21 :: y22 :: y23 :: y24 :: y25 :: y26 :: y27 :: y28 :: y29 :: y30 :: y31 :: y32 :: y33 :: y34 :: y35 :: y36 :: y37 :: y38 :: y39 :: y40 :: y41 :: y42 :: y43 :: y44 :: y45 :: y46 :: y47 :: y48 :: y49 :: y50 :: y51 :: y52 :: y53 :: y54 :: y55 :: y56 :: y57 :: y58 :: y59 :: y60 :: y61 :: y62 :: y63 :: y64 :: y65 :: y66 :: y67 :: y68 :: []).toArray, defers := [] } W := by
 have hq0 : 0 ≤ (q : Int) := by omega
 have hqn : q < ol := by omega
 simp only [opsOf, opsIn, Try.f70, Option.bind_some, Option.bind]
 refine Mem.startR_ (N := 11) (S := (fun w' => w'.cell? ⟨Bo, 0, none⟩ = some (.slice (some ⟨go, 0, none⟩) ol co) ∧ w'.cell? ⟨Br, 0, none⟩ = some (.slice A2 (Num.nd m).length c2) ∧ w'.cell? ⟨Bb, 0, none⟩ = some (.slice Az1 z1.length cz1))) (ds := [9, 10]) #[false, false, false, false, false, false, false, false, false, false, false] (by kernel_rfl) (by kernel_rfl) rfl rfl ⟨hcO, hcR, hcB⟩ (fun hHeld => ?_)
 refine Short.takeS_ (i := 0) (N := some 58) #[true, false, false, false, false, false, false, false, false, false, false] (by kernel_rfl) hHeld ?_
 refine Short.pureS_ (i := 1) (N := some 59) #[true, true, false, false, false, false, false, false, false, false, false] (by kernel_rfl) ?_
 refine Short.takeS_ (i := 2) (N := some 60) #[true, true, true, false, false, false, false, false, false, false, false] (by kernel_rfl) hHeld ?_
 refine Short.takeS_ (i := 3) (N := some 61) #[true, true, true, true, false, false, false, false, false, false, false] (by kernel_rfl) hHeld ?_
 refine one_ (i := 4) (N := some 62) #[true, true, true, true, true, false, false, false, false, false, false] rfl rfl (by kernel_rfl) (by decide) (fun K hK => ?_)
 refine Short.goesD_ Try.func89 #[.slice A2 (Num.nd m).length c2, .slice Az1 z1.length cz1] ?_
 with_reducible refine (nat_digit.calls kd (fun k => N5 ≤ k) _ _ (Num.nd m) _ _ z1 _ _ _ (Kd.V_drew hV) (Kd.C_below hR1 (Below.drew (Below.refl _ W))) hC1 hdig).mono ?_
 rintro e w10 ⟨v1, rfl, ho1, hb1⟩
 obtain ⟨Av1, cv1, hv1⟩ := Kd.V_slice ho1
 subst hv1
 refine ⟨_, rfl, ?_⟩
 have hb0 : Below W.heap.size W w10 := ((Below.refl _ W).drew).trans hb1
 have hq10 : w10.cell? ⟨go, q, none⟩ = some v0 := (hb0.cell (p := ⟨go, q, none⟩) hlo).trans hcq
 have hfq10 : w10.frozen? ⟨go, q, none⟩ = false := (hb0.frozen (p := ⟨go, q, none⟩) hlo).trans hfq
 have hr10 : w10.cell? ⟨Br, 0, none⟩ = some (.slice A2 (Num.nd m).length c2) := (hb0.cell (p := ⟨Br, 0, none⟩) hlr).trans hcR
 have hfr10 : w10.frozen? ⟨Br, 0, none⟩ = false := (hb0.frozen (p := ⟨Br, 0, none⟩) hlr).trans hfR
 refine hK.out _ _ ⟨(hb0.cell (p := ⟨Bo, 0, none⟩) hlO).trans hcO, hr10, (hb0.cell (p := ⟨Bb, 0, none⟩) hlB).trans hcB⟩ (fun hHeld => ?_)
 clear hK K
 have hrs : (w10.setCell ⟨go, q, none⟩ (.int .u32 ((m / B : Nat) : Int))).cell? ⟨Br, 0, none⟩ = some (.slice A2 (Num.nd m).length c2) := by rw [Mem.cell_set w10 hne]; exact hr10
 have hfrs : (w10.setCell ⟨go, q, none⟩ (.int .u32 ((m / B : Nat) : Int))).frozen? ⟨Br, 0, none⟩ = false := by rw [Mem.frozen_set w10 hne]; exact hfr10
 refine Short.normS_ ?_
 refine Short.pureS_ (i := 5) (N := some 57) #[true, true, true, true, true, true, false, false, false, false, false] (by kernel_rfl) ?_
 refine Short.pureS_ (i := 6) (N := some 63) #[true, true, true, true, true, true, true, false, false, false, false] (by kernel_rfl) ?_
 refine Short.pureS_ (i := 7) (N := some 64) #[true, true, true, true, true, true, true, true, false, false, false] (by kernel_rfl) ?_
 refine Short.pureS_ (i := 8) (N := some 65) #[true, true, true, true, true, true, true, true, true, false, false] (by kernel_rfl) ?_
 refine last_ (i := 9) (N := none) #[true, true, true, true, true, true, true, true, true, true, false] rfl rfl (by kernel_rfl) (by decide) (fun K hK => ?_)
 refine skip_ (w1 := ?_) (by rfl) rfl ?_ ?_
 rotate_left
 ·go_simp
  rfl
 refine hK.out _ _ ?_
 clear hK K
 refine last_ (i := 10) (N := none) #[true, true, true, true, true, true, true, true, true, true, true] rfl rfl (by kernel_rfl) (by decide) (fun K hK => ?_)
 refine skip_ (w1 := ?_) (by rfl) rfl ?_ ?_
 rotate_left
 ·go_simp
  rfl
 refine hK.out _ _ ?_
 clear hK K
 refine done_ (by kernel_rfl) ?_
 exact ⟨_, _, _, _, _, _, _, _, _, _, w10, rfl, rfl, hb0, Kd.V_mono ho1 (fun k hk => by rcases hk with h | h; exact h; exact Nat.le_trans h5 h)⟩
open Go.Shelf Back in
attribute [local go_sem] Oper.semAt_some in
set_option maxHeartbeats 1000000 in
set_option maxRecDepth 100000 in
theorem nat_DivMod.calls (k : Nat) (A0 : Option Addr) (c0 : Nat) (l0 : List Int) (A1 : Option Addr) (c1 : Nat) (l1 : List Int) (r1 : List Int) (r2 : List Int) (r3 : Int) (w : World) (hr0 : Kd.C (Kd.int .u32) w A0 l0.length l0) (hc0 : l0.length ≤ c0) (hr1 : Kd.C (Kd.int .u32) w A1 l1.length l1) (hc1 : l1.length ≤ c1) (h : nat_DivMod.f k l0 l1 = some (r1, r2, r3)) :
  Calls Try.prog 70 #[.slice A0 l0.length c0, .slice A1 l1.length c1] w fun e w' => ∃ v0_ v1_ : Value, e = .returned (.tuple #[v0_, v1_, .int .i64 r3]) ∧ Kd.R (Kd.int .u32) 89 w' w.heap.size (fun k_ => (w.heap.size ≤ k_)) v0_ r1 ∧ Kd.V (Kd.int .u32) 89 w' w.heap.size (fun k_ => (w.heap.size ≤ k_) ∧ some k_ ≠ (v0_ : Value).ownBlock) v1_ r2 ∧ Below w.heap.size w w' := by
 have hok0 : Num.okd l0 = true := by
  unfold nat_DivMod.f at h
  split at h
  ·assumption
  ·cases h
 have hok1 : Num.okd l1 = true := by
  unfold nat_DivMod.f at h
  rw [if_pos hok0] at h
  split at h
  ·assumption
  ·cases h
 obtain ⟨hL0, hW0⟩ := (Num.okd_iff l0).1 hok0
 obtain ⟨hL1, hW1⟩ := (Num.okd_iff l1).1 hok1
 unfold nat_DivMod.f at h
 rw [if_pos hok0, if_pos hok1] at h
 have ht0 := nat_trim.sem (Num.okd_okw hok0) (l0.length + 1) (by omega)
 have ht1 := nat_trim.sem (Num.okd_okw hok1) (l1.length + 1) (by omega)
 obtain ⟨z0, hz0⟩ : ∃ z, z = Num.nd (Num.nv l0) := ⟨_, rfl⟩
 obtain ⟨z1, hz1⟩ : ∃ z, z = Num.nd (Num.nv l1) := ⟨_, rfl⟩
 have hn0 : z0.length < 549755813888 := by
  have := Num.nd_length_le (Num.nv_lt hW0)
  rw [hz0]; omega
 have hn1 : z1.length < 549755813888 := by
  have := Num.nd_length_le (Num.nv_lt hW1)
  rw [hz1]; omega
 rw [← hz0] at ht0
 rw [← hz1] at ht1
 have HT0 := Aside0.mk ht0
 have HT1 := Aside0.mk ht1
 have HR0 := Aside0.mk hr0
 have HC0 := Aside0.mk hc0
 have HR1 := Aside0.mk hr1
 have HC1 := Aside0.mk hc1
 have HZ0 := Aside0.mk hz0
 have HZ1 := Aside0.mk hz1
 have HH := Aside0.mk h
 clear ht0 ht1 hr0 hc0 hr1 hc1 hz0 hz1 h hok0 hok1 hL0 hL1 hW0 hW1
 have hB0 : Below w.heap.size w (w.alloc (.cells #[.slice A1 l1.length c1] 23)) := (Below.refl _ w).alloc (Nat.le_refl _) _
 have bB := Boxed.new w 23 (.slice A1 l1.length c1)
 refine (callsIn_wide (n := 3)).1 ?_
 refine callsIn_of_wp_marks Try.func70 rfl trivial ?_ rfl
 simp only [Try.ntmps70, List.size_toArray, List.length_cons, List.length_nil, Nat.reduceAdd, Nat.reduceSub, Array.replicate_succ, Array.replicate_zero, List.push_toArray, List.append_toArray, List.nil_append, List.cons_append]
 refine wpIn_wide.2 ?_
 go_wp2
 have hcb0 := bB.cell
 have hsz0 : (w.alloc (.cells #[.slice A1 l1.length c1] 23)).heap.size = w.heap.size + 1 := by simp
 generalize (w.alloc (.cells #[.slice A1 l1.length c1] 23)) = w0 at hB0 bB hcb0 hsz0 ⊢
 refine wp_piece (fun a W3 => ∃ Az0 cz0 Az1 cz1, a = { tmps := (Value.slice Az0 z0.length cz0 :: Value.slice A1 l1.length c1 :: undef :: Value.pointer (some ⟨w.heap.size, 0, none⟩) :: Value.slice none 0 0 :: Value.slice none 0 0 :: Value.int .i64 0 :: undef :: undef :: undef :: undef :: undef :: undef :: Value.slice A0 l0.length c0 :: Value.slice Az0 z0.length cz0 :: Value.slice A1 l1.length c1 :: Value.slice Az1 z1.length cz1 :: undef :: undef :: undef :: undef :: undef :: undef :: undef :: undef :: undef :: undef :: undef :: undef :: undef :: undef :: undef :: undef :: undef :: undef :: undef :: undef :: undef :: undef :: undef :: undef :: undef :: undef :: undef :: undef :: undef :: undef :: undef :: undef :: undef :: undef :: undef :: undef :: undef :: undef :: undef :: undef :: undef :: undef :: undef :: undef :: undef :: undef :: undef :: undef :: undef :: undef :: undef :: undef :: []).toArray, defers := [] } ∧ Kd.R (Kd.int .u32) 89 W3 w.heap.size (fun _ => True) (.slice Az0 z0.length cz0) z0 ∧ Kd.R (Kd.int .u32) 89 W3 w.heap.size (fun _ => True) (.slice Az1 z1.length cz1) z1 ∧ Below w.heap.size w W3 ∧ Boxed W3 w.heap.size 23 (.slice Az1 z1.length cz1)) ?_ ?_
 have hlt0 : w.heap.size < w0.heap.size := bB.lt
 ·go_region_with (first | (go_at_call 71; (with_reducible refine (nat_trim.calls _ _ _ l0 _ _ (Kd.C_below HR0.out hB0.drew) HC0.out HT0.out).mono ?_); rintro e w1 ⟨v0, rfl, ho0, hb0⟩; obtain ⟨Az0, cz0, hv0⟩ := Kd.R_slice ho0; subst hv0; have hB1 : Below w.heap.size w w1 := hB0.drew.trans (hb0.mono hB0.size); have bB1 : Boxed w1 w.heap.size 23 (.slice A1 l1.length c1) := (hb0.block _ hlt0).trans bB; have hcb1 := bB1.cell) | (go_at_call 71; (with_reducible refine (nat_trim.calls _ _ _ l1 _ _ (Kd.C_below HR1.out hB1) HC1.out HT1.out).mono ?_); rintro e w2 ⟨v1, rfl, ho1, hb1⟩; obtain ⟨Az1, cz1, hv1⟩ := Kd.R_slice ho1; subst hv1; have bB2 : Boxed w2 w.heap.size 23 (.slice A1 l1.length c1) := (hb1.block _ bB1.lt).trans bB1; have hcb2 := bB2.cell; have hfb2 := bB2.frozen))
  all_goals
   have hs0 : w0.drew.heap.size = w0.heap.size := rfl
   have hs1 := hb0.size
   have hs2 := hb1.size
   have R03 := Kd.R_far (p := ⟨w.heap.size, 0, none⟩) (Kd.R_mono (Kd.R_bound (Kd.R_below ho0 hb1)) (ok' := fun k => w0.heap.size ≤ k) (fun k hk => hk.2.1)) (fun k hk => by simp only; omega) (.slice Az1 z1.length cz1)
   have R13 := Kd.R_far (p := ⟨w.heap.size, 0, none⟩) (Kd.R_mono (Kd.R_bound ho1) (ok' := fun k => w1.heap.size ≤ k) (fun k hk => hk.2.1)) (fun k hk => by simp only; omega) (.slice Az1 z1.length cz1)
   have hB3 : Below w.heap.size w (w2.setCell ⟨w.heap.size, 0, none⟩ (.slice Az1 z1.length cz1)) := (hB1.trans (hb1.mono (by omega))).setCell (p := ⟨w.heap.size, 0, none⟩) (Nat.le_refl _) _
   exact ⟨_, _, _, _, rfl, Kd.R_lower (Kd.R_mono R03 (fun _ _ => trivial)) (by omega), Kd.R_lower (Kd.R_mono R13 (fun _ _ => trivial)) (by omega), hB3, bB2.set _⟩
 rintro a W3 ⟨Az0, cz0, Az1, cz1, rfl, R03, R13, hB3, bB3⟩
 clear hB0 bB hcb0 hsz0
 clear w0
 refine only_then ?_
 have hc3 := bB3.cell
 by_cases hz : Num.nv l1 = 0
 ·have hl1 : z1.length = 0 := by rw [HZ1.out, hz, Num.nd_zero]; rfl
  have h := HH.out
  rw [if_pos hz] at h
  simp only [Option.some.injEq, Prod.mk.injEq] at h
  obtain ⟨rfl, rfl, rfl⟩ := h
  clear hz HH
  go_wp2
  exact ⟨_, results_tmp3 rfl _ _ _, _, _, rfl, Kd.R_nil _ _ _ _ _, Kd.V_nil _ _ _ _ _, hB3⟩
 ·have hl1 : 0 < z1.length := by
   rcases Nat.eq_zero_or_pos z1.length with h0 | h0
   ·exact absurd (Num.nd_eq_nil.1 (by rw [← HZ1.out]; exact List.eq_nil_of_length_eq_zero h0)) hz
   ·exact h0
  have h := HH.out
  rw [if_neg hz] at h
  simp only [Option.some.injEq, Prod.mk.injEq] at h
  obtain ⟨rfl, rfl, rfl⟩ := h
  have HN := Aside0.mk hz
  have HW0 : Aside0 (Num.Ws z0) := ⟨by rw [HZ0.out]; exact Num.Ws_nd _⟩
  have HW1 : Aside0 (Num.Ws z1) := ⟨by rw [HZ1.out]; exact Num.Ws_nd _⟩
  clear hz HH
  have hl1' : ¬ (z1.length : Int) = 0 := by omega
  go_wp2_with (first | ((with_reducible refine gate_dst (N := 22) rfl ?_); refine Kd.R_make (Kd.int .u32) W3.heap.size 89 rfl (N := 22) rfl 23 _ _ rfl (z0.length : Int) rfl rfl Try.underlying23 (.int .u32 0) 4 info89 rfl (by decide) (by omega) 0 (ok := fun _ => True) (okp := fun _ => True) rfl (fun _ hk => hk) trivial (by omega) (by omega) (Below.refl _ _) (Nat.le_refl _) ?_; intro vo w4 ho4 hb4 hg4 hnew4; obtain ⟨Ao, co, hvo⟩ := Kd.R_slice ho4; subst hvo; simp only [Int.toNat_natCast, List.length_replicate] at ho4) | (go_at_call 87; refine (callsIn_wide.1 (back_in Fence.wide 0 trivial rfl _ _ _ _)).mono ?_; rintro e w5 ⟨rfl, rfl⟩))
  have hs4 := hb4.size
  have bO := ((Boxed.new w4 23 (.slice Ao z0.length co)).alloc (.cells #[.slice none 0 0] 23)).alloc (.cells #[.slice Az0 z0.length cz0] 23)
  have bR := (Boxed.new (w4.alloc (.cells #[.slice Ao z0.length co] 23)) 23 (.slice none 0 0)).alloc (.cells #[.slice Az0 z0.length cz0] 23)
  have bS := Boxed.new ((w4.alloc (.cells #[.slice Ao z0.length co] 23)).alloc (.cells #[.slice none 0 0] 23)) 23 (.slice Az0 z0.length cz0)
  rw [World.size_alloc] at bR
  rw [World.size_alloc, World.size_alloc] at bS
  have RO := ((Kd.R_alloc (Kd.R_alloc (Kd.R_alloc (Kd.R_tight rfl ho4) (.cells #[.slice Ao z0.length co] 23)) (.cells #[.slice none 0 0] 23)) (.cells #[.slice Az0 z0.length cz0] 23)))
  have hB5 : Below W3.heap.size W3 (((w4.alloc (.cells #[.slice Ao z0.length co] 23)).alloc (.cells #[.slice none 0 0] 23)).alloc (.cells #[.slice Az0 z0.length cz0] 23)) := ((hb4.alloc hs4 _).alloc (by simp; omega) _).alloc (by simp; omega) _
  have hs5 : (((w4.alloc (.cells #[.slice Ao z0.length co] 23)).alloc (.cells #[.slice none 0 0] 23)).alloc (.cells #[.slice Az0 z0.length cz0] 23)).heap.size = w4.heap.size + 3 := by simp
  have hgo : ∀ g, (Value.slice Ao z0.length co).ownBlock = some g → W3.heap.size ≤ g ∧ g < w4.heap.size := fun g hg => ⟨Kd.R_base ho4 g hg, Kd.R_lt ho4 g hg⟩
  generalize (((w4.alloc (.cells #[.slice Ao z0.length co] 23)).alloc (.cells #[.slice none 0 0] 23)).alloc (.cells #[.slice Az0 z0.length cz0] 23)) = W5 at bO bR bS RO hB5 hs5 ⊢
  have row0 := (Row.ofR R03 (Nat.le_refl _)).below hB5
  have row1 := Row.ofR R13 (Nat.le_refl _)
  clear hb4 hg4 ho4 hnew4
  refine (wpIn_wide (n := 3)).1 ?_
  refine wpIn_rangeFunc_ownG (F := Fence.wide) (n := 3) rfl (by omega) (gf := 94) (lb := #[.pointer (some ⟨w4.heap.size + 1 + 1, 0, none⟩)]) rfl trivial (enters_of Try.func94 (by kernel_rfl) rfl)
   (back_stops Fence.wide _ trivial rfl (by omega) (w4.heap.size + 1 + 1) W3.heap.size _ z0 (by omega) _ (by omega) (by omega) bS.cell row0) KB.trans (KB.putObj (by omega) (by omega)) (Below.refl _ _) (fun _ => rfl)
   (fun pre W => Below W3.heap.size W5 W ∧ Boxed W w4.heap.size 23 (.slice Ao z0.length co) ∧ Kd.R (Kd.int .u32) 89 W W3.heap.size (fun k => some k = (Value.slice Ao z0.length co).ownBlock) (.slice Ao z0.length co) (nat_DivMod.st z0 (Num.nv l1) pre).2 ∧ ∃ vr, Boxed W (w4.heap.size + 1) 23 vr ∧ Kd.V (Kd.int .u32) 89 W 0 (fun k => W5.heap.size ≤ k) vr (Num.nd (nat_DivMod.st z0 (Num.nv l1) pre).1))
   (fun _ _ _ => False)
   (OwnFrom.and (ownFrom_below (by omega) (by omega)) (OwnFrom.and (Own.from (boxed_own _ _ _) _) (OwnFrom.and (Own.from (Mem.R_own _ _ _ _ _) _) (Own.from (Mem.V_own _ _ _ _ _ _) _))))
   (fun _ _ _ _ _ hs _ _ => hs)
   ⟨Below.refl _ _, bO, by simpa [nat_DivMod.st] using RO, _, bR, by simpa [nat_DivMod.st, Num.nd_zero] using Kd.V_nil _ _ _ _ _⟩
   (fun x => { tmps := (Value.slice Az0 z0.length cz0 :: Value.slice A1 l1.length c1 :: undef :: Value.pointer (some ⟨w.heap.size, 0, none⟩) :: Value.slice none 0 0 :: Value.slice none 0 0 :: Value.int .i64 0 :: Value.pointer (some ⟨w4.heap.size, 0, none⟩) :: Value.pointer (some ⟨w4.heap.size + 1, 0, none⟩) :: Value.int .i64 (ix z0.length x : Int) :: Value.int .u32 (wd z0 x) :: undef :: undef :: Value.slice A0 l0.length c0 :: Value.slice Az0 z0.length cz0 :: Value.slice A1 l1.length c1 :: Value.slice Az1 z1.length cz1 :: Value.slice Az1 z1.length cz1 :: Value.int .i64 (z1.length : Int) :: Value.bool false :: Value.slice Az0 z0.length cz0 :: Value.int .i64 (z0.length : Int) :: Value.slice Ao z0.length co :: Value.slice Az0 z0.length cz0 :: Value.func (.func 94) #[] #[.pointer (some ⟨w4.heap.size + 1 + 1, 0, none⟩)] :: Value.int .i64 (ix z0.length x : Int) :: Value.int .u32 (wd z0 x) :: undef :: undef :: undef :: undef :: undef :: undef :: undef :: undef :: undef :: undef :: undef :: undef :: undef :: undef :: undef :: undef :: undef :: undef :: undef :: undef :: undef :: undef :: undef :: undef :: undef :: undef :: undef :: undef :: undef :: undef :: undef :: undef :: undef :: undef :: undef :: undef :: undef :: undef :: undef :: undef :: undef :: undef :: []).toArray, defers := [] }) ?assign ?body ?done ?stop
  case assign =>
   intro l x W K hK
   gi_wp2
   exact hK
  case body =>
   rintro l pre x W ⟨hB5W, bO', RO', vr, bR', VR'⟩ hlt
   have hB := hB5.trans hB5W
   have hs5W := hB5W.size
   have hx : ix z0.length x < z0.length := by unfold ix; omega
   have hw := HW0.out.getD (ix z0.length x)
   obtain ⟨Ar, cr, hvr⟩ := Kd.V_slice VR'
   obtain ⟨R, hR⟩ : ∃ s, s = (nat_DivMod.st z0 (Num.nv l1) pre).1 := ⟨_, rfl⟩
   obtain ⟨O, hO⟩ : ∃ s, s = (nat_DivMod.st z0 (Num.nv l1) pre).2 := ⟨_, rfl⟩
   rw [← hR] at VR' hvr
   rw [← hO] at RO'
   subst hvr
   have hlR := (Kd.V_reads' VR').2.2
   have hcB := (hB.cell (p := ⟨w.heap.size, 0, none⟩) bB3.lt).trans hc3
   have hcO := bO'.cell
   have hcR := bR'.cell
   have hfR := bR'.frozen
   have hsW := hB5.size
   have hsB := hB.size
   obtain ⟨u, hu⟩ : ∃ u : Nat, (u : Int) = wd z0 x := ⟨(wd z0 x).toNat, by simp only [List.getD_eq_getElem?_getD] at hw; unfold wd; omega⟩
   have hu32 : u < 4294967296 := by simp only [List.getD_eq_getElem?_getD] at hw; unfold wd at hu; omega
   obtain ⟨q, hq⟩ : ∃ q, q = ix z0.length x := ⟨_, rfl⟩
   obtain ⟨B, hBe⟩ : ∃ B, B = Num.nv l1 := ⟨_, rfl⟩
   have hB0 : B ≠ 0 := by rw [hBe]; exact HN.out
   have hRB : R < B := by rw [hR, ← hBe]; exact nat_DivMod.st_lt z0 hB0 pre
   have hzB : Num.nv z1 = B := by rw [HZ1.out, Num.nv_nd, hBe]
   have hlr : (Num.nd R).length ≤ z1.length := by
    rw [HZ1.out, ← hBe]
    exact Num.nd_len_mono (by omega)
   have hnvr : Num.nv ([(u : Int)] ++ Num.nd R) = R * 4294967296 + u := by simp only [List.cons_append, List.nil_append, Num.nv, Num.nv_nd, Int.toNat_natCast]; omega
   obtain ⟨m, hm⟩ : ∃ m, m = R * 4294967296 + u := ⟨_, rfl⟩
   have HTr : Aside0 (nat_trim.f ((Num.nd R).length + 2) ([(u : Int)] ++ Num.nd R) = some (Num.nd (R * 4294967296 + u))) := ⟨by
    rw [← hnvr]
    exact nat_trim.sem_w (by rw [List.cons_append, List.nil_append]; exact Num.Ws.cons (by omega) (by omega) (Num.Ws_nd _)) (by simp; omega) _ (by simp)⟩
   obtain ⟨L1, hL1⟩ : ∃ L, L = [(u : Int)] ++ Num.nd R := ⟨_, rfl⟩
   have HTr1 : Aside0 (nat_trim.f ((Num.nd R).length + 2) L1 = some (Num.nd m)) := ⟨by rw [hL1, hm]; exact HTr.out⟩
   have HL1 := Aside0.mk hL1
   have HM := Aside0.mk hm
   have hmB : m < 4294967296 * B := by rw [hm]; have := Nat.mul_le_mul_left 4294967296 (show R + 1 ≤ B from hRB); omega
   clear hL1 HTr hm
   rw [← hq] at hx
   rw [← hq, ← hu]
   have HU := Aside0.mk hu
   have HQ := Aside0.mk hq
   have HR' := Aside0.mk hR
   have HO' := Aside0.mk hO
   have HBE := Aside0.mk hBe
   have HZB := Aside0.mk hzB
   have HB := Aside0.mk hB
   have HRO := Aside0.mk RO'
   have HVR := Aside0.mk VR'
   have HLR := Aside0.mk hlR
   have hlr4 : (1 + (Num.nd R).length) * 4 ≤ 140737488355328 := by omega
   have HGO := Aside0.mk hgo
   clear hu hq hR hO hBe hzB hw hnvr hB RO' VR' hlR hgo row0
   have hgo := HGO
   have bBW : Boxed W w.heap.size 23 (.slice Az1 z1.length cz1) := (HB.out.block _ bB3.lt).trans bB3
   have hcRL := (bR'.alloc (.cells #[.int .u32 (u : Int)] 89)).cell
   have hst : nat_DivMod.st z0 (Num.nv l1) (pre ++ [x]) = (m % B, O.set q ((m / B : Nat) : Int)) := by
    rw [nat_DivMod.st_snoc, ← HR'.out, ← HO'.out, ← HBE.out, ← HQ.out, ← HU.out, Int.toNat_natCast, ← HM.out]
   have hend : ∀ (W' : World) (v : Value), Mem.Turn W3.heap.size (w4.heap.size + 1 + 1) W W' → Boxed W' w4.heap.size 23 (.slice Ao z0.length co) → Kd.R (Kd.int .u32) 89 W' W3.heap.size (fun k => some k = (Value.slice Ao z0.length co).ownBlock) (.slice Ao z0.length co) (O.set q ((m / B : Nat) : Int)) → Boxed W' (w4.heap.size + 1) 23 v → Kd.V (Kd.int .u32) 89 W' 0 (fun k => W5.heap.size ≤ k) v (Num.nd (m % B)) →
     KeepsFrom W5.heap.size W W' ∧ KB W3.heap.size (w4.heap.size + 1 + 1) W W' ∧ Below W3.heap.size W5 W' ∧ Boxed W' w4.heap.size 23 (.slice Ao z0.length co) ∧ Kd.R (Kd.int .u32) 89 W' W3.heap.size (fun k => some k = (Value.slice Ao z0.length co).ownBlock) (.slice Ao z0.length co) (nat_DivMod.st z0 (Num.nv l1) (pre ++ [x])).2 ∧ ∃ vr, Boxed W' (w4.heap.size + 1) 23 vr ∧ Kd.V (Kd.int .u32) 89 W' 0 (fun k => W5.heap.size ≤ k) vr (Num.nd (nat_DivMod.st z0 (Num.nv l1) (pre ++ [x])).1) := by
    intro W' v hT h1 h2 h3 h4
    rw [hst]
    exact ⟨hT.ko.from _, hT.kb, hB5W.trans hT.kb.1, h1, h2, v, h3, h4⟩
   have HEND := Aside0.mk hend
   clear hst hend
   have hbb : w.heap.size < W3.heap.size := bB3.lt
   have hWs : w4.heap.size + 1 < W.heap.size := bR'.lt
   have hsB0 : W3.heap.size ≤ W.heap.size := HB.out.size
   have hBsW : w4.heap.size + 1 + 1 < W.heap.size := by omega
   by_cases hl1e : z1.length = 1
   ·have HL1E := Aside0.mk hl1e
    have ht1 : ((z1.length : Int) == 1) = true := by rw [hl1e]; rfl
    clear hl1e
    have hB32 : B < 4294967296 := by
     have := Num.nv_lt HW1.out
     rw [HZB.out, HL1E.out] at this
     exact this
    have hm64 : m < 18446744073709551616 := by omega
    have hlm : (Num.nd m).length ≤ 2 := Num.nd_length_le (k := 2) hm64
    have hsm : Aside0 (nat_Small.f 0 (Num.nd m) = some ((m : Int), true)) := ⟨by
     unfold nat_Small.f
     rw [if_pos (Num.okw_of (by omega) (Num.Ws_nd m)), Num.nv_nd, if_pos hm64]⟩
    gi_wp2_with (first | (gi_at_builtin; refine Mem.wpListIn_append_rows W.heap.size rfl (.tmp 28) (.tmp 29) 23 89 rfl Try.underlying23 info89 (.slice (some ⟨W.heap.size, 0, none⟩) 1 1) [(u : Int)] (Num.nd R) Ar (Num.nd R).length cr rfl rfl (Mem.R_lit1 W _ _) (Kd.C_alloc HLR.out _) (by simp) hlr4 ?_; intro v1 w1 hv1 hg1; rw [← HL1.out] at hv1; obtain ⟨A1', c1', hv1'⟩ := Kd.R_slice hv1; subst hv1'; have hW1 : Below W.heap.size W w1 := ((Below.refl W.heap.size W).alloc (Nat.le_refl _) _).grown hg1 (by simp) (fun k hk => by simp [Value.ownBlock] at hk; omega)) | (refine ⟨trivial, ?_⟩; gi_at_call 71; (with_reducible refine (CallsIn.inRound l (callsIn_wide.2 (nat_trim.calls _ _ _ L1 _ _ (Kd.R_reads' hv1).2.2 (Kd.R_reads' hv1).2.1 HTr1.out))).mono ?_); rintro e w2 ⟨v2, rfl, ho2, hb2⟩; obtain ⟨A2, c2, hv2⟩ := Kd.R_slice ho2; subst hv2; have hW2 : Below W.heap.size W w2 := hW1.trans (hb2.mono hW1.size); have bR2 : Boxed w2 (w4.heap.size + 1) 23 (.slice Ar (Num.nd R).length cr) := (hW2.block _ bR'.lt).trans bR'; have hcR2 := bR2.cell; have hfR2 := bR2.frozen; have bR9 := bR2.set (.slice A2 (Num.nd m).length c2); have hcR9 := bR9.cell; have bB9 : Boxed (w2.setCell ⟨w4.heap.size + 1, 0, none⟩ (.slice A2 (Num.nd m).length c2)) w.heap.size 23 (.slice Az1 z1.length cz1) := Boxed.other ((hW2.block _ bBW.lt).trans bBW) (by omega) _; have hcB9 := bB9.cell; have ho9 := Kd.R_far (p := ⟨w4.heap.size + 1, 0, none⟩) (Kd.R_mono (Kd.R_bound ho2) (ok' := fun k => w1.heap.size ≤ k) (fun k hk => hk.2.1)) (fun k hk => by have := hW1.size; have := bR'.lt; simp only; omega) (.slice A2 (Num.nd m).length c2)) | (refine ⟨trivial, ?_⟩; gi_at_call 83; (with_reducible refine (CallsIn.inRound l (callsIn_wide.2 (nat_Small.calls _ _ _ (Num.nd m) _ _ _ (Kd.R_reads' ho9).2.2 (Kd.R_reads' ho9).2.1 hsm.out))).mono ?_); rintro e w10 ⟨rfl, hb10⟩))
    have hT2 : Mem.Turn W3.heap.size (w4.heap.size + 1 + 1) W w2 := Mem.Turn.below hW2 hsB0 hBsW
    have hT9 := hT2.trans (Mem.Turn.set w2 0 (b := w4.heap.size + 1) (by omega) (by omega) (.slice A2 (Num.nd m).length c2))
    have hs9 : w2.heap.size ≤ (w2.setCell ⟨w4.heap.size + 1, 0, none⟩ (.slice A2 (Num.nd m).length c2)).heap.size := by simp [World.setCell]
    have hs2 := hW2.size
    have hT10 := hT9.trans (Mem.Turn.below hb10 (by omega) (by omega))
    have bB10 : Boxed w10 w.heap.size 23 (.slice Az1 z1.length cz1) := (hb10.block _ bB9.lt).trans bB9
    have bO9 : Boxed (w2.setCell ⟨w4.heap.size + 1, 0, none⟩ (.slice A2 (Num.nd m).length c2)) w4.heap.size 23 (.slice Ao z0.length co) := Mem.boxed_set ((hW2.block _ bO'.lt).trans bO') 0 (by omega) _
    have bO10 : Boxed w10 w4.heap.size 23 (.slice Ao z0.length co) := (hb10.block _ bO9.lt).trans bO9
    have bR10 : Boxed w10 (w4.heap.size + 1) 23 (.slice A2 (Num.nd m).length c2) := (hb10.block _ bR9.lt).trans bR9
    have RO9 := Kd.R_far (p := ⟨w4.heap.size + 1, 0, none⟩) (Kd.R_below HRO.out hW2) (fun k hk => by have := (hgo.out k hk.symm).2; simp only; omega) (.slice A2 (Num.nd m).length c2)
    have RO10 := Kd.R_below RO9 hb10
    have row10 := (((row1.below HB.out).below (hT9.kb.1)).below (hb10.mono (by omega)))
    have hOl := (Kd.R_reads' RO10).1
    obtain ⟨go, cap, hge, hg1, hg2, _⟩ := Kd.R_form RO10 (by omega)
    rw [← hOl] at hge
    obtain ⟨hAo, hco⟩ : Ao = some ⟨go, 0, none⟩ ∧ co = cap := by
     injection hge with e1 e2 e3
     exact ⟨e1, e3⟩
    have hgo4 := (hgo.out go (by rw [hAo]; rfl)).2
    subst hAo
    subst hco
    obtain ⟨hcq, hfq⟩ := Kd.R_celln 0 RO10 (q : Int) (by omega) (by omega)
    have hput := (Kd.R_putg (Kd.R_drew RO10) (q : Int) ((m / B : Nat) : Int)).1
    simp only [Int.toNat_natCast] at hcq hfq hput
    have hcO10 := bO10.cell
    have hcB10 := bB10.cell
    rcases row10 with ⟨hnil, _⟩ | ⟨b1, off1, cap1, e, hb1, hcs1⟩
    ·exfalso
     have := HL1E.out
     injection hnil with _ e2 _
     omega
    ·obtain ⟨hAz1, hcz1⟩ : Az1 = some ⟨b1, off1, none⟩ ∧ cz1 = cap1 := by
      injection e with e1 e2 e3
      exact ⟨e1, e3⟩
     subst hAz1
     subst hcz1
     have hzv : z1[0]?.getD 0 = (B : Int) := by
      have h1 := HZB.out
      have h2 := HL1E.out
      match z1, h2 with
      | [b], _ =>
       have := HW1.out.head
       simp only [Num.nv] at h1
       simp
       omega
     have hcz := hcs1 0 (by omega)
     rw [hzv, Nat.add_zero] at hcz
     have hBpos : (1 : Int) ≤ (B : Int) := by omega
     have hBne : ¬ ((B : Int) = 0) := by omega
     have hq0 : 0 ≤ (q : Int) := by omega
     have hqz : (q : Int) < (z0.length : Int) := by omega
     have h1z : (0 : Int) < (z1.length : Int) := by omega
     have hHR := Aside0.mk RO10
     clear RO10 RO9 hsm hcs1
     have hwB : IntKind.u64.wrap (B : Int) = (B : Int) := u64_nat B (by omega)
     have hB0b : ((B : Int) == 0) = false := by simpa using hB0
     have hlo10 : W3.heap.size ≤ go := (hgo.out go rfl).1
     refine wpIn_piece _ (nat_DivMod.reg12 l w.heap.size w4.heap.size (w4.heap.size + 1) q m B b1 off1 go z1.length cz1 z0.length co w10 _ hcB10 hcO10 hcz hcq hfq hB0 hB32 hmB hqz h1z) ?_
     rintro a W12 ⟨x40, x41, x42, x43, x44, x45, x46, x47, x48, x49, rfl, hW12⟩
     have hT12 : Mem.Turn W3.heap.size (w4.heap.size + 1 + 1) W W12 := by rw [hW12]; exact (hT10.trans (Mem.Turn.drew _ _ w10)).trans (Mem.Turn.set w10.drew q (b := go) (by omega) (by omega) _)
     have bB12 : Boxed W12 w.heap.size 23 (.slice (some ⟨b1, off1, none⟩) z1.length cz1) := by rw [hW12]; exact Mem.boxed_set (W := w10.drew) bB10 q (by omega) _
     have bO12 : Boxed W12 w4.heap.size 23 (.slice (some ⟨go, 0, none⟩) z0.length co) := by rw [hW12]; exact Mem.boxed_set (W := w10.drew) bO10 q (by omega) _
     have bR12 : Boxed W12 (w4.heap.size + 1) 23 (.slice A2 (Num.nd m).length c2) := by rw [hW12]; exact Mem.boxed_set (W := w10.drew) bR10 q (by omega) _
     have R12 := hput
     rw [← hW12] at R12
     have hcz12 : W12.cell? ⟨b1, off1, none⟩ = some (.int .u32 (B : Int)) := by rw [hW12, Mem.cell_set _ (by omega)]; exact hcz
     have hs12 : W.heap.size ≤ W12.heap.size := hT12.ko.size
     clear hput hW12 hcz hcq hfq hcO10 hcB10 hHR
     have hcB12 := bB12.cell
     have hcR12 := bR12.cell
     have hfR12 := bR12.frozen
     have hmm : m % B < 18446744073709551616 := Nat.lt_trans (Nat.mod_lt _ (by omega)) (by omega)
     obtain ⟨kf, hkf⟩ := nat_Of.ev (m % B) hmm
     have hof : Aside0 (nat_Of.f kf ((m : Int) % (B : Int)) = some (Num.nd (m % B))) := ⟨by rw [← Int.natCast_emod]; exact hkf kf (Nat.le_refl _)⟩
     have hrem : IntKind.u64.wrap ((m : Int) % (B : Int)) = (m : Int) % (B : Int) := by rw [← Int.natCast_emod]; exact u64_nat _ hmm
     clear hkf
     gi_wp2_with (refine ⟨trivial, ?_⟩; gi_at_call 37; (with_reducible refine (CallsIn.inRound l (callsIn_wide.2 (nat_Of.calls _ _ _ _ hof.out))).mono ?_); rintro e w13 ⟨v3, rfl, ho3, hb3⟩; obtain ⟨A3, c3, hv3⟩ := Kd.R_slice ho3; subst hv3; have bR13 : Boxed w13 (w4.heap.size + 1) 23 (.slice A2 (Num.nd m).length c2) := (hb3.block _ bR12.lt).trans bR12; have hcR13 := bR13.cell; have hfR13 := bR13.frozen)
     have hT13 := hT12.trans (Mem.Turn.below hb3 (by omega) (by omega))
     have bO13 : Boxed w13 w4.heap.size 23 (.slice (some ⟨go, 0, none⟩) z0.length co) := (hb3.block _ bO12.lt).trans bO12
     have R13' := Kd.R_below R12 hb3
     refine HEND.out _ (.slice A3 (Num.nd (m % B)).length c3) (hT13.trans (Mem.Turn.set w13 0 (b := w4.heap.size + 1) (by omega) (by omega) _)) (Mem.boxed_set bO13 0 (by omega) _) (Kd.R_far R13' (p := ⟨w4.heap.size + 1, 0, none⟩) (fun k hk => by have := (hgo.out k hk.symm).2; simp only; omega) _) (bR13.set _) ?_
     refine Kd.V_mono (Kd.R_V (Kd.R_far (p := ⟨w4.heap.size + 1, 0, none⟩) (Kd.R_mono (Kd.R_bound ho3) (ok' := fun k => W12.heap.size ≤ k) (fun k hk => hk.2.1)) (fun k hk => by simp only; omega) _)) (fun k hk => by omega)
   ·have ht1 : ((z1.length : Int) == 1) = false := by
     have : ¬ (z1.length : Int) = 1 := by omega
     simpa using this
    have hdg := nat_digit.ev HW1.out (by omega) (by rw [HZB.out]; exact hB0) m (by rw [HZB.out]; exact hmB)
    rw [HZB.out] at hdg
    obtain ⟨kd, hkd⟩ := hdg
    have HDG : Aside0 (nat_digit.f kd (Num.nd m) z1 = some (((m / B : Nat) : Int), Num.nd (m % B))) := ⟨hkd kd (Nat.le_refl _)⟩
    have hlm : (Num.nd m).length ≤ z1.length + 1 := Num.nd_length_le (by
     have h1 := Num.nv_lt HW1.out
     rw [HZB.out] at h1
     rw [Nat.mul_add, Nat.pow_add, Nat.mul_comm (2 ^ (32 * z1.length))]
     exact Nat.lt_of_lt_of_le hmB (Nat.mul_le_mul_left 4294967296 (Nat.le_of_lt h1)))
    clear hl1e hkd
    gi_wp2_with (first | (gi_at_builtin; refine Mem.wpListIn_append_rows W.heap.size rfl (.tmp 28) (.tmp 29) 23 89 rfl Try.underlying23 info89 (.slice (some ⟨W.heap.size, 0, none⟩) 1 1) [(u : Int)] (Num.nd R) Ar (Num.nd R).length cr rfl rfl (Mem.R_lit1 W _ _) (Kd.C_alloc HLR.out _) (by simp) hlr4 ?_; intro v1 w1 hv1 hg1; rw [← HL1.out] at hv1; obtain ⟨A1', c1', hv1'⟩ := Kd.R_slice hv1; subst hv1'; have hW1 : Below W.heap.size W w1 := ((Below.refl W.heap.size W).alloc (Nat.le_refl _) _).grown hg1 (by simp) (fun k hk => by simp [Value.ownBlock] at hk; omega)) | (refine ⟨trivial, ?_⟩; gi_at_call 71; (with_reducible refine (CallsIn.inRound l (callsIn_wide.2 (nat_trim.calls _ _ _ L1 _ _ (Kd.R_reads' hv1).2.2 (Kd.R_reads' hv1).2.1 HTr1.out))).mono ?_); rintro e w2 ⟨v2, rfl, ho2, hb2⟩; obtain ⟨A2, c2, hv2⟩ := Kd.R_slice ho2; subst hv2; have hW2 : Below W.heap.size W w2 := hW1.trans (hb2.mono hW1.size); have bR2 : Boxed w2 (w4.heap.size + 1) 23 (.slice Ar (Num.nd R).length cr) := (hW2.block _ bR'.lt).trans bR'; have hcR2 := bR2.cell; have hfR2 := bR2.frozen; have bR9 := bR2.set (.slice A2 (Num.nd m).length c2); have hcR9 := bR9.cell; have bB9 : Boxed (w2.setCell ⟨w4.heap.size + 1, 0, none⟩ (.slice A2 (Num.nd m).length c2)) w.heap.size 23 (.slice Az1 z1.length cz1) := Boxed.other ((hW2.block _ bBW.lt).trans bBW) (by omega) _; have hcB9 := bB9.cell; have ho9 := Kd.R_far (p := ⟨w4.heap.size + 1, 0, none⟩) (Kd.R_mono (Kd.R_bound ho2) (ok' := fun k => w1.heap.size ≤ k) (fun k hk => hk.2.1)) (fun k hk => by have := hW1.size; have := bR'.lt; simp only; omega) (.slice A2 (Num.nd m).length c2)))
    have hT2 : Mem.Turn W3.heap.size (w4.heap.size + 1 + 1) W w2 := Mem.Turn.below hW2 hsB0 hBsW
    have hT9 := hT2.trans (Mem.Turn.set w2 0 (b := w4.heap.size + 1) (by omega) (by omega) (.slice A2 (Num.nd m).length c2))
    have hs9 : w2.heap.size ≤ (w2.setCell ⟨w4.heap.size + 1, 0, none⟩ (.slice A2 (Num.nd m).length c2)).heap.size := by simp [World.setCell]
    have hs2 := hW2.size
    have hsw1 := hW1.size
    have bO9 : Boxed (w2.setCell ⟨w4.heap.size + 1, 0, none⟩ (.slice A2 (Num.nd m).length c2)) w4.heap.size 23 (.slice Ao z0.length co) := Mem.boxed_set ((hW2.block _ bO'.lt).trans bO') 0 (by omega) _
    have RO9 := Kd.R_far (p := ⟨w4.heap.size + 1, 0, none⟩) (Kd.R_below HRO.out hW2) (fun k hk => by have := (hgo.out k hk.symm).2; simp only; omega) (.slice A2 (Num.nd m).length c2)
    have hC1 : Kd.C (Kd.int .u32) (w2.setCell ⟨w4.heap.size + 1, 0, none⟩ (.slice A2 (Num.nd m).length c2)) Az1 z1.length z1 := Kd.C_below (Kd.R_reads' R13).2.2 (HB.out.trans hT9.kb.1)
    have hV9 := Kd.V_mono (Kd.R_V (base' := (w2.setCell ⟨w4.heap.size + 1, 0, none⟩ (.slice A2 (Num.nd m).length c2)).heap.size) ho9) (ok' := fun k => W5.heap.size ≤ k) (fun k hk => Nat.le_trans (by omega) hk)
    generalize (w2.setCell ⟨w4.heap.size + 1, 0, none⟩ (.slice A2 (Num.nd m).length c2)) = W9 at hT9 hs9 bR9 hcR9 bB9 hcB9 ho9 bO9 RO9 hC1 hV9 ⊢
    have hOl := (Kd.R_reads' RO9).1
    obtain ⟨go, cap, hge, hg1, hg2, _⟩ := Kd.R_form RO9 (by omega)
    rw [← hOl] at hge
    obtain ⟨hAo, hco⟩ : Ao = some ⟨go, 0, none⟩ ∧ co = cap := by
     injection hge with e1 e2 e3
     exact ⟨e1, e3⟩
    have hgo4 := (hgo.out go (by rw [hAo]; rfl)).2
    have hlo9 : W3.heap.size ≤ go := (hgo.out go (by rw [hAo]; rfl)).1
    subst hAo
    subst hco
    obtain ⟨hcq, hfq⟩ := Kd.R_celln 0 RO9 (q : Int) (by omega) (by omega)
    simp only [Int.toNat_natCast] at hcq hfq
    refine wpIn_piece _ (nat_DivMod.reg14 l w.heap.size w4.heap.size (w4.heap.size + 1) q m B W5.heap.size go cz1 z0.length co c2 kd Az1 A2 z1 W9 _ bB9.cell bO9.cell bR9.cell bR9.frozen hC1 (Kd.R_reads' R13).2.1 hV9 hcq hfq (by omega) (by omega) bO9.lt bB9.lt bR9.lt (by omega) (by omega) HDG.out) ?_
    rintro a W12 ⟨x57, x58, x59, x60, x61, x62, x63, x64, x65, v1, w10, rfl, hW12, hb10, hv10⟩
    have hs10 := hb10.size
    have RO10 := (Kd.R_putg (Kd.R_below RO9 hb10) (q : Int) ((m / B : Nat) : Int)).1
    simp only [Int.toNat_natCast] at RO10
    have bO10 : Boxed w10 w4.heap.size 23 (.slice (some ⟨go, 0, none⟩) z0.length co) := (hb10.block _ bO9.lt).trans bO9
    have bR10 : Boxed w10 (w4.heap.size + 1) 23 (.slice A2 (Num.nd m).length c2) := (hb10.block _ bR9.lt).trans bR9
    have hT10 := (hT9.trans (Mem.Turn.below hb10 (by omega) (by omega))).trans (Mem.Turn.set w10 q (b := go) (by omega) (by omega) (.int .u32 ((m / B : Nat) : Int)))
    have bO11 := Mem.boxed_set bO10 q (b := go) (by omega) (.int .u32 ((m / B : Nat) : Int))
    have bR11 := Mem.boxed_set bR10 q (b := go) (by omega) (.int .u32 ((m / B : Nat) : Int))
    have hv11 := Kd.V_far (p := ⟨go, q, none⟩) hv10 (fun k hk => by simp only; omega) (.int .u32 ((m / B : Nat) : Int))
    rw [hW12]
    refine HEND.out _ v1 (hT10.trans (Mem.Turn.set _ 0 (b := w4.heap.size + 1) (by omega) (by omega) _)) (Mem.boxed_set bO11 0 (by omega) _) (Kd.R_far RO10 (p := ⟨w4.heap.size + 1, 0, none⟩) (fun k hk => by have := (hgo.out k hk.symm).2; simp only; omega) _) (bR11.set _) (Kd.V_far (p := ⟨w4.heap.size + 1, 0, none⟩) hv11 (fun k hk => by simp only; omega) _)
  case done =>
   rintro D ys W hD rfl ⟨hB5W, bO', RO', vr, bR', VR'⟩ hK
   have hB := hB5.trans hB5W
   obtain ⟨qs, hq1, hq2, hq3, hq4⟩ := nat_DivMod.st_range z0 HW0.out HN.out z0.length (Nat.le_refl _)
   have hnz : Num.nv z0 = Num.nv l0 := by rw [HZ0.out, Num.nv_nd]
   rw [Nat.sub_self, List.drop_zero, hnz] at hq3 hq4
   rw [List.replicate_zero, List.nil_append] at hq4
   rw [hq4] at RO' VR'
   simp only at RO' VR'
   obtain ⟨Avr, cvr, hvr⟩ := Kd.V_slice VR'
   subst hvr
   obtain ⟨kt, hkt⟩ := nat_trim.ev hq2 (by rw [hq1]; omega)
   rw [hq3] at hkt
   have HT15 : Aside0 (nat_trim.f kt qs = some (Num.nd (Num.nv l0 / Num.nv l1))) := ⟨hkt kt (Nat.le_refl _)⟩
   have hRO := (Kd.R_reads' RO').2.2
   have hRc := (Kd.R_reads' RO').2.1
   rw [← hq1] at hRc
   have HRO := Aside0.mk hRO
   have HRC := Aside0.mk hRc
   have HVR := Aside0.mk VR'
   have HB := Aside0.mk hB
   have HB3 := Aside0.mk hB3
   have hcO := bO'.cell
   have hcR := bR'.cell
   rw [← hq1] at hcO
   have HK := Aside0.mk hK
   clear hq1 hq2 hq3 hq4 hkt hRO hRc RO' VR' hB HZ0 row0 row1 RO R03 R13 hK
   gi_wp2
   go_wp2
   refine wp_piece (fun a W3' => ∃ At nt ct, a = { tmps := (Value.slice Az0 z0.length cz0 :: Value.slice A1 l1.length c1 :: undef :: Value.pointer (some ⟨w.heap.size, 0, none⟩) :: Value.slice At nt ct :: Value.slice Avr (Num.nd (Num.nv l0 % Num.nv l1)).length cvr :: Value.int .i64 0 :: Value.pointer (some ⟨w4.heap.size, 0, none⟩) :: Value.pointer (some ⟨w4.heap.size + 1, 0, none⟩) :: undef :: undef :: undef :: undef :: Value.slice A0 l0.length c0 :: Value.slice Az0 z0.length cz0 :: Value.slice A1 l1.length c1 :: Value.slice Az1 z1.length cz1 :: Value.slice Az1 z1.length cz1 :: Value.int .i64 (z1.length : Int) :: Value.bool false :: Value.slice Az0 z0.length cz0 :: Value.int .i64 (z0.length : Int) :: Value.slice Ao z0.length co :: Value.slice Az0 z0.length cz0 :: Value.func (.func 94) #[] #[.pointer (some ⟨w4.heap.size + 1 + 1, 0, none⟩)] :: undef :: undef :: undef :: undef :: undef :: undef :: undef :: undef :: undef :: undef :: undef :: undef :: undef :: undef :: undef :: undef :: undef :: undef :: undef :: undef :: undef :: undef :: undef :: undef :: undef :: undef :: undef :: undef :: undef :: undef :: undef :: undef :: undef :: undef :: undef :: undef :: undef :: undef :: undef :: undef :: undef :: Value.slice Ao qs.length co :: Value.slice At nt ct :: Value.slice Avr (Num.nd (Num.nv l0 % Num.nv l1)).length cvr :: []).toArray, defers := [{ target := .collected D, args := #[] }] } ∧ Kd.R (Kd.int .u32) 89 W3' W.heap.size (fun _ => True) (.slice At nt ct) (Num.nd (Num.nv l0 / Num.nv l1)) ∧ Below W.heap.size W W3') ?_ ?_
   ·go_region_with (go_at_call 71; (with_reducible refine (nat_trim.calls _ _ _ qs _ _ (Kd.C_below HRO.out (Below.drew (Below.refl _ W))) HRC.out HT15.out).mono ?_); rintro e w15 ⟨v15, rfl, ho15, hb15⟩; obtain ⟨At, ct, hvt⟩ := Kd.R_slice ho15; subst hvt; have hcR15 := (hb15.cell (p := ⟨w4.heap.size + 1, 0, none⟩) bR'.lt).trans hcR)
    all_goals exact ⟨_, _, _, rfl, ho15, (Below.drew (Below.refl _ W)).trans hb15⟩
   rintro a W15 ⟨At, nt, ct, rfl, ho15, hb15⟩
   refine only_then ?_
   have hK15 : W15.heap[D]? = some (.deferred (some [])) := (hb15.block D (Array.getElem?_eq_some_iff.1 HK.out).1).trans HK.out
   go_wp2
   have hs15 := hb15.size
   have hsB := HB.out.size
   have hsB3 := HB3.out.size
   have hsW5 := hB5W.size
   have hs35 := hB5.size
   refine ⟨(by intro e; cases e), .inl ⟨D, W15.putObj D (.deferred none), rfl, run_takeDeferred hK15, ?_⟩⟩
   refine ⟨_, results_tmp3 rfl _ _ _, _, _, rfl, ?_, ?_, ?_⟩
   ·exact (Mem.R_own (β := Unit) 89 w.heap.size _ _ (fun _ => Num.nd (Num.nv l0 / Num.nv l1))).putObj (s := ()) _ (Kd.R_lower (Kd.R_mono (Kd.R_bound ho15) (ok' := fun k => w.heap.size ≤ k) (fun k hk => Nat.le_trans (by omega) hk.2.1)) (by omega)) hK15 rfl
   ·exact Mem.V_put (Kd.V_mono (Kd.V_elder' HVR.out (fun k hk => Kd.R_base ho15 k hk) hb15) (fun k hk => ⟨by omega, hk.2⟩)) hK15 rfl _
   ·exact ((HB3.out.trans (HB.out.mono hsB3)).trans (hb15.mono (by omega))).trans (belowK_b (w := W5) (by omega) W15 D _ _ hD hK15 rfl rfl)
  case stop =>
   rintro D c pre W _ _ h _
   exact h.elim
set_option synthInstance.checkSynthOrder false in
open Lin in
instance nat_DivMod.t {_k : Nat} {l0 : List Int} {l1 : List Int} {r : List Int × List Int × Int} [h : Ans (nat_DivMod.f _k l0 l1) r] : Tl Try.prog 70 [.one (.row l0), .one (.row l1)] (.tup [.one (.row r.1), .one (.row r.2.1), .one (.val (.int .i64 r.2.2))]) := ⟨Tells.of Try.func70 fun out w vs ho hl hv => by
 obtain ⟨u0, u1, rfl, h0, h1⟩ := args2 hl hv
 obtain ⟨A0, c0, rfl, hc0, hr0, hb0⟩ := h0
 obtain ⟨A1, c1, rfl, hc1, hr1, hb1⟩ := h1
 refine (nat_DivMod.calls _k A0 c0 l0 A1 c1 l1 _ _ _ w hr0 hc0 hr1 hc1 h.out).mono ?_
 rintro e w' ⟨v0_, v1_, rfl, gv0_, gv1_, hb⟩
 exact ⟨_, rfl, tup3 (row_R gv0_ ho) (row_V gv1_ (fun b hb hk => Nat.not_le.2 (ho b hb) hk.1)) (⟨rfl, rfl⟩), hb⟩⟩
end
def rat_den.f (k : Nat) (a0_0 : Bool) (l0_1 : List Int) (l0_2 : List Int) : Option (List Int) := (nat_Bits.f k l0_2).bind fun t226 => (if t226 = 0 then ((nat_Of.f k 1).bind fun t227 => (some t227)) else (some l0_2))
theorem rat_den.ev {m : Bool} {l1 l2 : List Int} (hW : Num.Ws l2) (hl : l2.length < 1000000) : Ev (fun k => rat_den.f k m l1 l2) (Qn.dl l2) := by
 have B := nat_Bits.ev hW (by omega)
 unfold rat_den.f Qn.dl
 refine Ev.bind B ?_
 have hb := Num.blen_lt (Num.nv l2)
 by_cases h : Num.nv l2 = 0
 ·rw [if_pos h]
  exact Dec.yes (by rw [h, Num.blen_zero]; rfl) (Ev.bind (nat_Of.ev 1 (by omega)) (Ev.now _))
 ·rw [if_neg h]
  refine Dec.no (fun e => h ?_) (Ev.now _)
  have e0 : Num.blen (Num.nv l2) = 0 := by omega
  rw [e0, Nat.pow_zero] at hb
  omega
set_option synthInstance.checkSynthOrder false in
open Lin in
set_option maxHeartbeats 4000000 in
instance rat_den.t {k : Nat} {a0_0 : Bool} {l0_1 : List Int} {l0_2 : List Int} {r : List Int} [h : Ans (rat_den.f k a0_0 l0_1 l0_2) r] : Tl Try.prog 46 [.agg [.val (.bool a0_0), .row l0_1, .row l0_2]] (.el (.one (.row r))) := by
 have h := h.out
 unfold rat_den.f at h
 repeat' (first | (replace h := Lin.bndK h) | (replace h := Lin.bnd h; obtain ⟨_, _, h⟩ := h) | split at h | cases h)
 all_goals exact ⟨Tells.go Try.func46 Try.ntmps46⟩
def nat_Gcd.l0 : Nat → List Int → List Int → Option (List Int)
 | 0, _, _ => none
 | k + 1, x0, x1 => if (x1.length : Int) > 0 then ((nat_DivMod.f k x0 x1).bind fun bt396 => (nat_Gcd.l0 k x1 bt396.2.1)) else (some x0)
def nat_Gcd.f (k : Nat) (l0 : List Int) (l1 : List Int) : Option (List Int) := (nat_trim.f k l0).bind fun t390 => ((nat_trim.f k l1).bind fun t393 => (nat_Gcd.l0 k t390 t393))
set_option maxHeartbeats 8000000 in
set_option maxRecDepth 100000 in
theorem nat_Gcd.calls (k : Nat) (A0 : Option Addr) (c0 : Nat) (l0 : List Int) (A1 : Option Addr) (c1 : Nat) (l1 : List Int) (r : List Int) (w : World) (hr0 : Kd.C (Kd.int .u32) w A0 l0.length l0) (hc0 : l0.length ≤ c0) (hr1 : Kd.C (Kd.int .u32) w A1 l1.length l1) (hc1 : l1.length ≤ c1) (h : nat_Gcd.f k l0 l1 = some r) :
  Calls Try.prog 69 #[.slice A0 l0.length c0, .slice A1 l1.length c1] w fun e w' => ∃ v0_ : Value, e = .returned (v0_) ∧ Kd.V (Kd.int .u32) 89 w' w.heap.size (fun k_ => (w.heap.size ≤ k_)) v0_ r ∧ Below w.heap.size w w' := by
 have HR0 := Aside0.mk hr0
 have HC0 := Aside0.mk hc0
 clear hr0 hc0
 have HR1 := Aside0.mk hr1
 have HC1 := Aside0.mk hc1
 clear hr1 hc1
 have HB := Aside0.mk (Below.refl w.heap.size w)
 have H : ((nat_trim.f k l0).bind fun t390 => ((nat_trim.f k l1).bind fun t393 => (nat_Gcd.l0 k t390 t393))) = some r := h
 clear h
 replace H := Option.bind_eq_some_iff.mp H
 obtain ⟨t390, A30, H⟩ := H
 try dsimp only at H
 have A3 := Aside0.mk A30
 clear A30
 replace H := Option.bind_eq_some_iff.mp H
 obtain ⟨t393, A40, H⟩ := H
 replace H : (nat_Gcd.l0 k t390 t393) = some r := H
 have A4 := Aside0.mk A40
 clear A40
 have H' := Aside0.mk H
 clear H
 go_enter Try.func69, Try.ntmps69
 go_wp2_with (first | ((with_reducible refine gate_callee (f := 71) rfl ?_); refine Short.goesS_ (some 9) Try.func71 #[.slice A0 l0.length c0] ?_; (with_reducible refine (nat_trim.calls k _ _ l0 t390 _ HR0.out HC0.out A3.out).mono ?_); rintro e w5 ⟨v391, rfl, ho0, hb⟩; refine ⟨_, rfl, ?_⟩; have HO392 := Aside0.mk (Kd.R_lower (Kd.R_newM (M := fun k_ => (w.heap.size ≤ k_)) ho0 (below_size (by repeat (first | (with_reducible first | exact HB.out | apply below_alloc | apply pw_below_drewN | apply below_drew1) | exact HB.out))) (fun k_ h_ => h_)) (below_size (by repeat (first | (with_reducible first | exact HB.out | apply below_alloc | apply pw_below_drewN | apply below_drew1) | exact HB.out)))); replace HB := Aside0.mk (below_step (by repeat (first | (with_reducible first | exact HB.out | apply below_alloc | apply pw_below_drewN | apply below_drew1) | exact HB.out)) hb); (try clear hb); (try clear ho0)) | ((with_reducible refine gate_callee (f := 71) rfl ?_); refine Short.goesS_ (some 11) Try.func71 #[.slice A1 l1.length c1] ?_; (with_reducible refine (nat_trim.calls k _ _ l1 t393 _ (Kd.C_below HR1.out HB.out) HC1.out A4.out).mono ?_); rintro e w6 ⟨v394, rfl, ho0, hb⟩; refine ⟨_, rfl, ?_⟩; have HO395 := Aside0.mk (Kd.R_lower (Kd.R_new' (Kd.R_newM (M := fun k_ => (w.heap.size ≤ k_)) ho0 (below_size (by repeat (first | (with_reducible first | exact HB.out | apply below_alloc | apply pw_below_drewN | apply below_drew1) | exact HB.out))) (fun k_ h_ => h_)) (Kd.R_lt HO392.out)) (below_size (by repeat (first | (with_reducible first | exact HB.out | apply below_alloc | apply pw_below_drewN | apply below_drew1) | exact HB.out)))); replace HO392 := Aside0.mk (Kd.R_elder' HO392.out (Kd.R_base ho0) hb); replace HB := Aside0.mk (below_step (by repeat (first | (with_reducible first | exact HB.out | apply below_alloc | apply pw_below_drewN | apply below_drew1) | exact HB.out)) hb); (try clear hb); (try clear ho0)))
 go_loopg [0, 1] k (fun kq v0 v1 w' => ∃ (x0_1 : List Int) (x1_1 : List Int), Aside0 (nat_Gcd.l0 kq x0_1 x1_1 = some r) ∧ Aside0 (kq ≤ k) ∧ Aside0 (Kd.V (Kd.int .u32) 89 w' w.heap.size (fun k_ => (w.heap.size ≤ k_)) v0 x0_1) ∧ Aside0 (Kd.V (Kd.int .u32) 89 w' w.heap.size (fun k_ => (w.heap.size ≤ k_)) v1 x1_1) ∧ Aside0 (Below w.heap.size w w'))
 case atStart => exact ⟨(t390), (t393), H', ⟨Nat.le_refl _⟩, ⟨Kd.R_V (by (with_reducible repeat (first | apply Kd.R_alloc | apply Kd.R_drewN | apply Kd.R_drew)); exact Kd.R_mono HO392.out (fun _ hk => hk.1.1))⟩, ⟨Kd.R_V (by (with_reducible repeat (first | apply Kd.R_alloc | apply Kd.R_drewN | apply Kd.R_drew)); exact Kd.R_mono HO395.out (fun _ hk => hk.1.1))⟩, ⟨by repeat (first | (with_reducible first | exact HB.out | apply below_alloc | apply pw_below_drewN | apply below_drew1) | exact HB.out)⟩⟩
 case round =>
  clear H'
  try clear c1
  try clear p2
  try clear c6
  obtain ⟨x0_1, x1_1, HA, HK1, HO_0, HO_1, HB⟩ := hrel
  cases gk with
  | zero => exact absurd HA.out (by simp [nat_Gcd.l0])
  | succ k1 =>
   have H := HA.out
   clear HA
   simp only [nat_Gcd.l0] at H
   by_cases c7 : (x1_1.length : Int) > 0
   ·rw [if_pos c7] at H
    have c7b0 : decide (0 < (x1_1.length : Int)) = true := decide_eq_true c7
    have c7b1 : decide (0 < x1_1.length) = true := decide_eq_true (by omega)
    clear c7
    replace H := Option.bind_eq_some_iff.mp H
    obtain ⟨⟨t396, t399, t402⟩, A80, H⟩ := H
    replace H : (nat_Gcd.l0 k1 x1_1 t399) = some r := H
    have A8 := Aside0.mk A80
    clear A80
    have H' := Aside0.mk H
    clear H
    obtain ⟨Ao9, co9, eo9⟩ := Kd.V_slice HO_1.out
    subst eo9
    obtain ⟨Ao10, co10, eo10⟩ := Kd.V_slice HO_0.out
    subst eo10
    go_wp2_with (first | ((with_reducible refine gate_callee (f := 70) rfl ?_); refine Short.goesS_ (some 18) Try.func70 #[.slice Ao10 x0_1.length co10, .slice Ao9 x1_1.length co9] ?_; (with_reducible refine (nat_DivMod.calls k1 _ _ x0_1 _ _ x1_1 t396 t399 t402 _ ((Kd.V_reads' HO_0.out).2.2) ((Kd.V_reads' HO_0.out).2.1) ((Kd.V_reads' HO_1.out).2.2) ((Kd.V_reads' HO_1.out).2.1) A8.out).mono ?_); rintro e w11 ⟨v397, v400, rfl, ho0, ho1, hb⟩; refine ⟨_, rfl, ?_⟩; replace HO_0 := Aside0.mk (Kd.V_elder' HO_0.out (Kd.R_base ho0) hb); replace HO_1 := Aside0.mk (Kd.V_elder' HO_1.out (Kd.R_base ho0) hb); have HO398 := Aside0.mk (Kd.R_lower (Kd.R_newM (M := fun k_ => (w.heap.size ≤ k_)) (Kd.R_mono (ok' := fun k_ => True) ho0 (fun _ hk_ => trivial)) (below_size (by repeat (first | (with_reducible first | exact HB.out | apply below_alloc | apply pw_below_drewN | apply below_drew1) | exact HB.out))) (fun k_ h_ => h_)) (below_size (by repeat (first | (with_reducible first | exact HB.out | apply below_alloc | apply pw_below_drewN | apply below_drew1) | exact HB.out)))); have HO401 := Aside0.mk (Kd.V_lower (Kd.V_mono (ok' := fun k_ => (w.heap.size ≤ k_) ∧ some k_ ≠ (v397 : Value).ownBlock) ho1 (fun k_ hk_ => ⟨(Nat.le_trans (below_size (by repeat (first | (with_reducible first | exact HB.out | apply below_alloc | apply pw_below_drewN | apply below_drew1) | exact HB.out))) hk_.1), hk_.2⟩)) (below_size (by repeat (first | (with_reducible first | exact HB.out | apply below_alloc | apply pw_below_drewN | apply below_drew1) | exact HB.out)))); replace HB := Aside0.mk (below_step (by repeat (first | (with_reducible first | exact HB.out | apply below_alloc | apply pw_below_drewN | apply below_drew1) | exact HB.out)) hb); (try clear hb); (try clear ho0); (try clear ho1)))
    go_roundg k1
    case measure => have := HK1.out; omega
    case rel => exact ⟨(x1_1), (t399), H', ⟨by have := HK1.out; omega⟩, ⟨by (with_reducible repeat (first | apply Kd.V_alloc | apply Kd.V_drewN | apply Kd.V_drew)); exact Kd.V_mono HO_1.out (fun _ hk => hk.1)⟩, ⟨by (with_reducible repeat (first | apply Kd.V_alloc | apply Kd.V_drewN | apply Kd.V_drew)); exact Kd.V_mono HO401.out (fun _ hk => hk.1)⟩, ⟨by repeat (first | (with_reducible first | exact HB.out | apply below_alloc | apply pw_below_drewN | apply below_drew1) | exact HB.out)⟩⟩
   ·rw [if_neg c7] at H
    have c7b0 : decide (0 < (x1_1.length : Int)) = false := decide_eq_false c7
    have c7b1 : decide (0 < x1_1.length) = false := decide_eq_false (by omega)
    clear c7
    obtain rfl := Option.some.inj H
    obtain ⟨Ao12, co12, eo12⟩ := Kd.V_slice HO_1.out
    subst eo12
    go_wp2
    go_ret
    exact ⟨_, by rfl, by (with_reducible repeat (first | apply Kd.V_alloc | apply Kd.V_drewN | apply Kd.V_drew)); exact HO_0.out, by repeat (first | (with_reducible first | exact HB.out | apply below_alloc | apply pw_below_drewN | apply below_drew1) | exact HB.out)⟩

theorem nat_Gcd.ev_l {K : Nat} (hK : K < 1000000) (b : Nat) : ∀ a : Nat, a < 2 ^ (32 * K) → b < 2 ^ (32 * K) → Ev (fun k => nat_Gcd.l0 k (Num.nd a) (Num.nd b)) (Num.nd (Nat.gcd a b)) := by
 induction b using Nat.strongRecOn with
 | ind b ih =>
  intro a ha hb
  by_cases h0 : b = 0
  ·subst h0
   rw [Nat.gcd_zero_right]
   refine Ev.step (f := fun _ => some (Num.nd a)) (fun k => ?_) (Ev.now _)
   rw [nat_Gcd.l0, Num.nd_zero, if_neg (by rw [List.length_nil]; omega)]
  ·have h2 : 0 < (Num.nd b).length := by
    rcases Nat.eq_zero_or_pos (Num.nd b).length with h | h
    ·exact absurd (Num.nd_eq_nil.1 (List.eq_nil_of_length_eq_zero h)) h0
    ·exact h
   have la := Num.nd_length_le ha
   have lb := Num.nd_length_le hb
   have hm := Nat.mod_lt a (Nat.pos_of_ne_zero h0)
   refine Ev.step (f := fun k => nat_Gcd.l0 k (Num.nd b) (Num.nd (a % b))) (fun k => ?_) ?_
   ·rw [nat_Gcd.l0, if_pos (by omega)]
    unfold nat_DivMod.f
    rw [if_pos ((Num.okd_iff _).2 ⟨by omega, Num.Ws_nd _⟩), if_pos ((Num.okd_iff _).2 ⟨by omega, Num.Ws_nd _⟩), Num.nv_nd, Num.nv_nd, if_neg h0, Option.bind_some]
   ·have := ih (a % b) hm b hb (Nat.lt_trans hm hb)
    rw [Nat.gcd_comm b (a % b), ← Nat.gcd_rec, Nat.gcd_comm b a] at this
    exact this
theorem nat_Gcd.ev {l0 l1 : List Int} {K : Nat} (hK : K < 1000000) (W0 : Num.Ws l0) (W1 : Num.Ws l1) (h0 : l0.length ≤ K) (h1 : l1.length ≤ K) : Ev (fun k => nat_Gcd.f k l0 l1) (Num.nd (Nat.gcd (Num.nv l0) (Num.nv l1))) := by
 unfold nat_Gcd.f
 exact Ev.bind (nat_trim.ev W0 (by omega)) (Ev.bind (nat_trim.ev W1 (by omega)) (nat_Gcd.ev_l hK _ _ (Nat.lt_of_lt_of_le (Num.nv_lt W0) (Nat.pow_le_pow_right (by omega) (by omega))) (Nat.lt_of_lt_of_le (Num.nv_lt W1) (Nat.pow_le_pow_right (by omega) (by omega)))))
set_option synthInstance.checkSynthOrder false in
open Lin in
instance nat_Gcd.t {k : Nat} {l0 : List Int} {l1 : List Int} {r : List Int} [h : Ans (nat_Gcd.f k l0 l1) r] : Tl Try.prog 69 [.one (.row l0), .one (.row l1)] (.el (.one (.row r))) := ⟨Tells.of Try.func69 fun out w vs ho hl hv => by
 obtain ⟨u0, u1, rfl, h0, h1⟩ := args2 hl hv
 obtain ⟨A0, c0, rfl, hc0, hr0, hb0⟩ := h0
 obtain ⟨A1, c1, rfl, hc1, hr1, hb1⟩ := h1
 refine (nat_Gcd.calls k A0 c0 l0 A1 c1 l1 _ w hr0 hc0 hr1 hc1 h.out).mono ?_
 rintro e w' ⟨v0_, rfl, gv0_, hb⟩
 exact ⟨_, rfl, row_V gv0_ (fun b hb hk => Nat.not_le.2 (ho b hb) hk), hb⟩⟩
def rat_Make.f (k : Nat) (a0_0 : Bool) (l0_1 : List Int) (l1 : List Int) : Option (Bool × List Int × List Int) := (rat_den.f k false ([] : List Int) l1).bind fun t405 => ((nat_Gcd.f k l0_1 t405).bind fun t408 => ((nat_DivMod.f k l0_1 t408).bind fun bt411 => ((nat_DivMod.f k t405 t408).bind fun bt418 => ((whole_Make.f k a0_0 bt411.1).bind fun bt425 => (some (bt425.1, bt425.2, bt418.1))))))
theorem rat_Make.ev {m : Bool} {l1 l2 : List Int} {p : Int} {K : Nat} (h : Zn.Is m l1 p K) (hW : Num.Ws l2) (hl : l2.length ≤ K) (hK1 : 1 ≤ K) (hK : K < 400000) : Ev (fun k => rat_Make.f k m l1 l2) (Qn.qd (mkRat p (Qn.dn (Num.nv l2)))) := by
 have hd := Qn.dn_ne (Num.nv l2)
 have W := Qn.ws_dl hW
 have L := Qn.len_dl hl hK1
 have V := Qn.nv_dl l2
 have G := nat_Gcd.ev (K := K) (by omega) h.ws W h.len L
 rw [V] at G
 obtain ⟨g, hg⟩ : ∃ g, g = Nat.gcd (Num.nv l1) (Qn.dn (Num.nv l2)) := ⟨_, rfl⟩
 rw [← hg] at G
 have g0 : g ≠ 0 := by
  have := Nat.gcd_pos_of_pos_right (Num.nv l1) (Nat.pos_of_ne_zero hd)
  omega
 have bd := Qn.dn_lt hW hl hK1
 have bg : g < 2 ^ (32 * K) := Nat.lt_of_le_of_lt (Nat.le_of_dvd (Nat.pos_of_ne_zero hd) (by rw [hg]; exact Nat.gcd_dvd_right _ _)) bd
 have l1K := h.len
 have q1 := (Num.okd_iff l1).2 ⟨by omega, h.ws⟩
 have q2 := (Num.okd_iff (Qn.dl l2)).2 ⟨by omega, W⟩
 have qg := (Num.okd_iff (Num.nd g)).2 ⟨Nat.lt_of_le_of_lt (Num.nd_length_le bg) (by omega), Num.Ws_nd _⟩
 have D1 : ∀ k, nat_DivMod.f k l1 (Num.nd g) = some (Num.nd (Num.nv l1 / g), Num.nd (Num.nv l1 % g), 0) := fun k => by unfold nat_DivMod.f; rw [if_pos q1, if_pos qg, Num.nv_nd, if_neg g0]
 have D2 : ∀ k, nat_DivMod.f k (Qn.dl l2) (Num.nd g) = some (Num.nd (Qn.dn (Num.nv l2) / g), Num.nd (Qn.dn (Num.nv l2) % g), 0) := fun k => by unfold nat_DivMod.f; rw [if_pos q2, if_pos qg, Num.nv_nd, if_neg g0, V]
 have M := whole_Make.ev (Zn.Is.nd (m := m) (Nat.lt_of_le_of_lt (Nat.div_le_self (Num.nv l1) g) (Num.nv_lt_of h.ws h.len))) (by omega)
 have e1 := Qn.num_eq m (Num.nv l1) (Qn.dn (Num.nv l2)) hd
 have e2 := Qn.den_eq m (Num.nv l1) (Qn.dn (Num.nv l2)) hd
 rw [← hg, h.val] at e1 e2
 unfold rat_Make.f Qn.qd
 rw [e1, e2]
 exact Ev.bind (rat_den.ev hW (by omega)) (Ev.bind G (Dec.val D1 (Dec.val D2 (Ev.bind M (Ev.now _)))))
set_option synthInstance.checkSynthOrder false in
open Lin in
set_option maxHeartbeats 4000000 in
instance rat_Make.t {k : Nat} {a0_0 : Bool} {l0_1 : List Int} {l1 : List Int} {r : Bool × List Int × List Int} [h : Ans (rat_Make.f k a0_0 l0_1 l1) r] : Tl Try.prog 36 [.agg [.val (.bool a0_0), .row l0_1], .one (.row l1)] (.el (.agg [.val (.bool r.1), .row r.2.1, .row r.2.2])) := by
 have h := h.out
 unfold rat_Make.f at h
 repeat' (first | (replace h := Lin.bndK h) | (replace h := Lin.bnd h; obtain ⟨_, _, h⟩ := h) | split at h | cases h)
 all_goals exact ⟨Tells.go Try.func36 Try.ntmps36⟩
def offcutref02_Made.f (a0 : Bool) (a1 : ByteArray) : Option (ByteArray) := if a0 = true then (if a1.toList = ([48] : List UInt8) then (some a1) else (if 1 + a1.size ≤ 9223372036854775807 then (some ((⟨#[45]⟩ : ByteArray) ++ a1)) else (none))) else (some a1)
theorem offcutref02_Made.sem (m : Bool) (n : Nat) (hn : (Dec.dc n).length < 9000000000000000000) : offcutref02_Made.f m (Dec.dec n) = some (Zn.tz (Zn.zv m n)) := by
 unfold offcutref02_Made.f
 rw [Zn.tz_zv]
 cases m
 ·rw [if_neg (by decide), if_neg (by simp)]
 ·rw [if_pos rfl]
  by_cases h : n = 0
  ·rw [if_pos ((Dec.dec_is0 n).2 h), if_neg (fun e => e.2 h)]
  ·rw [if_neg (fun e => h ((Dec.dec_is0 n).1 e)), if_pos (by rw [Zn.dec_size]; omega), if_pos ⟨rfl, h⟩]
set_option synthInstance.checkSynthOrder false in
open Lin in
set_option maxHeartbeats 4000000 in
instance offcutref02_Made.t {a0 : Bool} {a1 : ByteArray} {r : ByteArray} [h : Ans (offcutref02_Made.f a0 a1) r] : Tl Try.prog 48 [.one (.val (.bool a0)), .one (.val (.string a1))] (.el (.one (.val (.string r)))) := by
 have h := h.out
 unfold offcutref02_Made.f at h
 repeat' (first | (replace h := Lin.bndK h) | (replace h := Lin.bnd h; obtain ⟨_, _, h⟩ := h) | split at h | cases h)
 all_goals exact ⟨Tells.go Try.func48 Try.ntmps48⟩
def offcutref02_Below.f (a0 : ByteArray) : Option (Bool) := if 0 < (a0.size : Int) then (some ((bt a0 0) == 45)) else (none)
set_option maxHeartbeats 8000000 in
set_option maxRecDepth 100000 in
theorem offcutref02_Below.calls (a0 : ByteArray) (r : Bool) (w : World) (h : offcutref02_Below.f a0 = some r) :
  Calls Try.prog 52 #[.string a0] w fun e w' => e = .returned (.bool r) ∧ Drawn0 w w' := by
 have H : (if 0 < (a0.size : Int) then (some ((bt a0 0) == 45)) else (none)) = some r := h
 clear h
 by_cases c2 : 0 < (a0.size : Int)
 ·rw [if_pos c2] at H
  have c2b0 : decide (0 < (a0.size : Int)) = true := decide_eq_true c2
  have c2b1 : decide (0 < a0.size) = true := decide_eq_true (by omega)
  clear c2
  obtain rfl := Option.some.inj H
  have p3 : 0 ≤ (0 : Int) := (by omega)
  have q3 : 0 < a0.size := (by have : (0 : Int) < (a0.size : Int) := of_decide_eq_true (by first | (with_reducible assumption) | assumption); omega)
  have hx3 : ∀ h : 0 < a0.size, ((a0[0]'h).toNat : Int) = bt a0 0 := bt_at a0 0
  clear p3
  have qi3 : (0 < (a0.size : Int)) = True := eq_true (of_decide_eq_true (by first | (with_reducible assumption) | assumption))
  replace q3 := eq_true q3
  go_enter Try.func52, Try.ntmps52
  go_wp2
  go_ret
  exact ⟨by first | rfl | (simp; done) | (simp [*]; done), by repeat (first | exact Drawn0.refl _ | apply Drawn0.step)⟩
 ·rw [if_neg c2] at H
  exact absurd H (by simp)

theorem offcutref02_Below.sem (z : Int) : offcutref02_Below.f (Zn.tz z) = some (decide (z < 0)) := by
 unfold offcutref02_Below.f
 have := Zn.tz_size_pos z
 rw [if_pos (by omega)]
 congr 1
 by_cases h : z < 0
 ·rw [decide_eq_true h, (Zn.tz_head z).2 h]
  rfl
 ·rw [decide_eq_false h]
  exact beq_eq_false_iff_ne.2 (fun e => h ((Zn.tz_head z).1 e))
set_option synthInstance.checkSynthOrder false in
open Lin in
instance offcutref02_Below.t {a0 : ByteArray} {r : Bool} [h : Ans (offcutref02_Below.f a0) r] : Tl Try.prog 52 [.one (.val (.string a0))] (.el (.one (.val (.bool r)))) := ⟨Tells.of Try.func52 fun out w vs ho hl hv => by
 obtain ⟨u0, rfl, h0⟩ := args1 hl hv
 obtain rfl := h0.1
 refine (offcutref02_Below.calls a0 _ w h.out).mono ?_
 rintro e w' ⟨rfl, hb⟩
 exact ⟨_, rfl, ⟨rfl, rfl⟩, below_of_drawn hb⟩⟩
def offcutref01_Less.f (a0 : ByteArray) (a1 : ByteArray) : Option (Bool) := if (a0.size : Int) = (a1.size : Int) then (some (Op.bytesLess a0.toList a1.toList)) else (some (decide ((a0.size : Int) < (a1.size : Int))))
set_option maxHeartbeats 8000000 in
set_option maxRecDepth 100000 in
theorem offcutref01_Less.calls (a0 : ByteArray) (a1 : ByteArray) (r : Bool) (w : World) (h : offcutref01_Less.f a0 a1 = some r) :
  Calls Try.prog 57 #[.string a0, .string a1] w fun e w' => e = .returned (.bool r) ∧ Drawn0 w w' := by
 have H : (if (a0.size : Int) = (a1.size : Int) then (some (Op.bytesLess a0.toList a1.toList)) else (some (decide ((a0.size : Int) < (a1.size : Int))))) = some r := h
 clear h
 by_cases c3 : (a0.size : Int) = (a1.size : Int)
 ·rw [if_pos c3] at H
  have c3b0 : ((a0.size : Int) == (a1.size : Int)) = true := beq_iff_eq.mpr c3
  have c3b1 : ((a0.size : Int) != (a1.size : Int)) = false := bne_eq_false_iff_eq.mpr c3
  have c3b2 : (a0.size == a1.size) = true := by first | simpa using c3 | (simp at c3 ⊢; omega)
  clear c3
  obtain rfl := Option.some.inj H
  go_enter Try.func57, Try.ntmps57
  go_wp2
  go_ret
  exact ⟨by first | rfl | (simp; done) | (simp [*]; done), by repeat (first | exact Drawn0.refl _ | apply Drawn0.step)⟩
 ·rw [if_neg c3] at H
  have c3b0 : ((a0.size : Int) == (a1.size : Int)) = false := beq_eq_false_iff_ne.mpr c3
  have c3b1 : ((a0.size : Int) != (a1.size : Int)) = true := bne_iff_ne.mpr c3
  have c3b2 : (a0.size == a1.size) = false := by first | simpa using c3 | (simp at c3 ⊢; omega)
  obtain rfl := Option.some.inj H
  go_enter Try.func57, Try.ntmps57
  go_wp2
  go_ret
  exact ⟨by first | rfl | (simp; done) | (simp [*]; done), by repeat (first | exact Drawn0.refl _ | apply Drawn0.step)⟩

theorem offcutref01_Less.sem (m n : Nat) : offcutref01_Less.f (Dec.dec m) (Dec.dec n) = some (decide (m < n)) := by
 unfold offcutref01_Less.f
 by_cases h : (Dec.dec m).size = (Dec.dec n).size
 ·rw [if_pos (by omega), Dec.less_dec m n h]
 ·rw [if_neg (by omega)]
  congr 1
  unfold Dec.dec at h ⊢
  rw [Dec.tx_size, Dec.tx_size] at h ⊢
  rcases Nat.lt_or_ge (Dec.dc m).length (Dec.dc n).length with h1 | h1
  ·rw [decide_eq_true (Dec.dc_len_lt h1), decide_eq_true (by omega)]
  ·have := Dec.dc_len_lt (m := n) (n := m) (by omega)
   rw [decide_eq_false (by omega), decide_eq_false (by omega)]
set_option synthInstance.checkSynthOrder false in
open Lin in
instance offcutref01_Less.t {a0 : ByteArray} {a1 : ByteArray} {r : Bool} [h : Ans (offcutref01_Less.f a0 a1) r] : Tl Try.prog 57 [.one (.val (.string a0)), .one (.val (.string a1))] (.el (.one (.val (.bool r)))) := ⟨Tells.of Try.func57 fun out w vs ho hl hv => by
 obtain ⟨u0, u1, rfl, h0, h1⟩ := args2 hl hv
 obtain rfl := h0.1
 obtain rfl := h1.1
 refine (offcutref01_Less.calls a0 a1 _ w h.out).mono ?_
 rintro e w' ⟨rfl, hb⟩
 exact ⟨_, rfl, ⟨rfl, rfl⟩, below_of_drawn hb⟩⟩
def offcutref01_sign.f (a0 : Int) : Option (ByteArray) := if 0 ≤ a0 then (if a0 ≤ (wrap64 (a0 + 1)) then (if (wrap64 (a0 + 1)) ≤ 10 then (some ((⟨#[48, 49, 50, 51, 52, 53, 54, 55, 56, 57]⟩ : ByteArray).extract (a0 : Int).toNat ((wrap64 (a0 + 1)) : Int).toNat)) else (none)) else (none)) else (none)
set_option maxHeartbeats 8000000 in
set_option maxRecDepth 100000 in
theorem offcutref01_sign.calls (a0 : Int) (r : ByteArray) (w : World) (h : offcutref01_sign.f a0 = some r) :
  Calls Try.prog 80 #[.int .i64 a0] w fun e w' => e = .returned (.string r) ∧ Drawn0 w w' := by
 have H : (if 0 ≤ a0 then (if a0 ≤ (wrap64 (a0 + 1)) then (if (wrap64 (a0 + 1)) ≤ 10 then (some ((⟨#[48, 49, 50, 51, 52, 53, 54, 55, 56, 57]⟩ : ByteArray).extract (a0 : Int).toNat ((wrap64 (a0 + 1)) : Int).toNat)) else (none)) else (none)) else (none)) = some r := h
 clear h
 by_cases c2 : 0 ≤ a0
 ·rw [if_pos c2] at H
  have c2b0 := eq_true c2
  have c2b1 : decide (0 ≤ a0) = true := decide_eq_true c2
  clear c2
  by_cases c3 : a0 ≤ (wrap64 (a0 + 1))
  ·rw [if_pos c3] at H
   have c3b0 := eq_true c3
   have c3b1 : decide (a0 ≤ (wrap64 (a0 + 1))) = true := decide_eq_true c3
   by_cases c4 : (wrap64 (a0 + 1)) ≤ 10
   ·rw [if_pos c4] at H
    have c4b0 := eq_true c4
    have c4b1 : decide ((wrap64 (a0 + 1)) ≤ 10) = true := decide_eq_true c4
    obtain rfl := Option.some.inj H
    go_enter Try.func80, Try.ntmps80
    go_wp2
    go_ret
    exact ⟨by first | rfl | (simp; done) | (simp [*]; done), by repeat (first | exact Drawn0.refl _ | apply Drawn0.step)⟩
   ·rw [if_neg c4] at H
    exact absurd H (by simp)
  ·rw [if_neg c3] at H
   exact absurd H (by simp)
 ·rw [if_neg c2] at H
  exact absurd H (by simp)

theorem offcutref01_sign.sem (d : Nat) (h : d < 10) : offcutref01_sign.f (d : Int) = some (Dec.tx [d]) := by
 have : d = 0 ∨ d = 1 ∨ d = 2 ∨ d = 3 ∨ d = 4 ∨ d = 5 ∨ d = 6 ∨ d = 7 ∨ d = 8 ∨ d = 9 := by omega
 unfold offcutref01_sign.f
 rw [if_pos (by omega), Dec.w64s _ (by omega), if_pos (by omega), if_pos (by omega), Int.toNat_natCast, Int.toNat_natCast]
 show some ((ByteArray.mk (([48, 49, 50, 51, 52, 53, 54, 55, 56, 57] : List UInt8).toArray)).extract d (d + 1)) = _
 rw [ByteArray.extract_mk]
 rcases this with rfl | rfl | rfl | rfl | rfl | rfl | rfl | rfl | rfl | rfl <;> rfl
def offcutref01_cut.l0 : Nat → ByteArray → Option (ByteArray)
 | 0, _ => none
 | k + 1, x0 => if (x0.size : Int) > 1 then (if 0 < (x0.size : Int) then (if (bt x0 0) = 48 then (if 1 ≤ (x0.size : Int) then (offcutref01_cut.l0 k (x0.extract 1 x0.size)) else (none)) else (if x0.toList = ([] : List UInt8) then (some (⟨#[48]⟩ : ByteArray)) else (some x0))) else (none)) else (if x0.toList = ([] : List UInt8) then (some (⟨#[48]⟩ : ByteArray)) else (some x0))
def offcutref01_cut.f (k : Nat) (a0 : ByteArray) : Option (ByteArray) := offcutref01_cut.l0 k a0
set_option maxHeartbeats 8000000 in
set_option maxRecDepth 100000 in
theorem offcutref01_cut.calls (k : Nat) (a0 : ByteArray) (r : ByteArray) (w : World) (h : offcutref01_cut.f k a0 = some r) :
  Calls Try.prog 81 #[.string a0] w fun e w' => e = .returned (.string r) ∧ Drawn0 w w' := by
 have H : (offcutref01_cut.l0 k a0) = some r := h
 clear h
 have H' := Aside0.mk H
 clear H
 go_enter Try.func81, Try.ntmps81
 go_wp2
 go_loopg [0] k (fun kq v0 w' => ∃ (x0_1 : ByteArray), v0 = .string x0_1 ∧ Aside0 (offcutref01_cut.l0 kq x0_1 = some r) ∧ Aside0 (kq ≤ k) ∧ Drawn0 w w')
 case atStart => exact ⟨(a0), (by first | rfl | (simp; done) | (simp [*]; done)), H', ⟨Nat.le_refl _⟩, by repeat (first | exact Drawn0.refl _ | apply Drawn0.step)⟩
 case round =>
  clear H'
  obtain ⟨x0_1, rfl, HA, HK1, ⟨m1, rfl⟩⟩ := hrel
  cases gk with
  | zero => exact absurd HA.out (by simp [offcutref01_cut.l0])
  | succ k1 =>
   have H := HA.out
   clear HA
   simp only [offcutref01_cut.l0] at H
   by_cases c2 : (x0_1.size : Int) > 1
   ·rw [if_pos c2] at H
    have c2b0 : decide (1 < (x0_1.size : Int)) = true := decide_eq_true c2
    have c2b1 : decide (1 < x0_1.size) = true := decide_eq_true (by omega)
    clear c2
    by_cases c3 : 0 < (x0_1.size : Int)
    ·rw [if_pos c3] at H
     have c3b0 : decide (0 < (x0_1.size : Int)) = true := decide_eq_true c3
     have c3b1 : decide (0 < x0_1.size) = true := decide_eq_true (by omega)
     clear c3
     by_cases c5 : (bt x0_1 0) = 48
     ·rw [if_pos c5] at H
      have c5b0 : ((bt x0_1 0) == 48) = true := beq_iff_eq.mpr c5
      have c5b1 : ((bt x0_1 0) != 48) = false := bne_eq_false_iff_eq.mpr c5
      clear c5
      by_cases c6 : 1 ≤ (x0_1.size : Int)
      ·rw [if_pos c6] at H
       have c6b0 := eq_true c6
       have c6b1 : decide (1 ≤ (x0_1.size : Int)) = true := decide_eq_true c6
       clear c6
       have H' := Aside0.mk H
       clear H
       have p4 : 0 ≤ (0 : Int) := (by omega)
       have q4 : 0 < x0_1.size := (by have : (0 : Int) < (x0_1.size : Int) := of_decide_eq_true (by first | (with_reducible assumption) | assumption); omega)
       have hx4 : ∀ h : 0 < x0_1.size, ((x0_1[0]'h).toNat : Int) = bt x0_1 0 := bt_at x0_1 0
       clear p4
       have qi4 : (0 < (x0_1.size : Int)) = True := eq_true (of_decide_eq_true (by first | (with_reducible assumption) | assumption))
       replace q4 := eq_true q4
       go_wp2
       go_roundg k1
       case measure => have := HK1.out; omega
       case rel => exact ⟨(x0_1.extract 1 x0_1.size), (by first | rfl | (simp; done) | (simp [*]; done)), H', ⟨by have := HK1.out; omega⟩, by repeat (first | exact Drawn0.refl _ | apply Drawn0.step)⟩
      ·rw [if_neg c6] at H
       exact absurd H (by simp)
     ·rw [if_neg c5] at H
      have c5b0 : ((bt x0_1 0) == 48) = false := beq_eq_false_iff_ne.mpr c5
      have c5b1 : ((bt x0_1 0) != 48) = true := bne_iff_ne.mpr c5
      by_cases c7 : x0_1.toList = ([] : List UInt8)
      ·rw [if_pos c7] at H
       have c7b0 : (x0_1.toList == ([] : List UInt8)) = true := beq_iff_eq.mpr c7
       have c7b1 : (x0_1.toList != ([] : List UInt8)) = false := bne_eq_false_iff_eq.mpr c7
       clear c7
       obtain rfl := Option.some.inj H
       have p4 : 0 ≤ (0 : Int) := (by omega)
       have q4 : 0 < x0_1.size := (by have : (0 : Int) < (x0_1.size : Int) := of_decide_eq_true (by first | (with_reducible assumption) | assumption); omega)
       have hx4 : ∀ h : 0 < x0_1.size, ((x0_1[0]'h).toNat : Int) = bt x0_1 0 := bt_at x0_1 0
       clear p4
       have qi4 : (0 < (x0_1.size : Int)) = True := eq_true (of_decide_eq_true (by first | (with_reducible assumption) | assumption))
       replace q4 := eq_true q4
       go_wp2
       go_ret
       exact ⟨by first | rfl | (simp; done) | (simp [*]; done), by repeat (first | exact Drawn0.refl _ | apply Drawn0.step)⟩
      ·rw [if_neg c7] at H
       have c7b0 : (x0_1.toList == ([] : List UInt8)) = false := beq_eq_false_iff_ne.mpr c7
       have c7b1 : (x0_1.toList != ([] : List UInt8)) = true := bne_iff_ne.mpr c7
       obtain rfl := Option.some.inj H
       have p4 : 0 ≤ (0 : Int) := (by omega)
       have q4 : 0 < x0_1.size := (by have : (0 : Int) < (x0_1.size : Int) := of_decide_eq_true (by first | (with_reducible assumption) | assumption); omega)
       have hx4 : ∀ h : 0 < x0_1.size, ((x0_1[0]'h).toNat : Int) = bt x0_1 0 := bt_at x0_1 0
       clear p4
       have qi4 : (0 < (x0_1.size : Int)) = True := eq_true (of_decide_eq_true (by first | (with_reducible assumption) | assumption))
       replace q4 := eq_true q4
       go_wp2
       go_ret
       exact ⟨by first | rfl | (simp; done) | (simp [*]; done), by repeat (first | exact Drawn0.refl _ | apply Drawn0.step)⟩
    ·rw [if_neg c3] at H
     exact absurd H (by simp)
   ·rw [if_neg c2] at H
    have c2b0 : decide (1 < (x0_1.size : Int)) = false := decide_eq_false c2
    have c2b1 : decide (1 < x0_1.size) = false := decide_eq_false (by omega)
    clear c2
    by_cases c8 : x0_1.toList = ([] : List UInt8)
    ·rw [if_pos c8] at H
     have c8b0 : (x0_1.toList == ([] : List UInt8)) = true := beq_iff_eq.mpr c8
     have c8b1 : (x0_1.toList != ([] : List UInt8)) = false := bne_eq_false_iff_eq.mpr c8
     clear c8
     obtain rfl := Option.some.inj H
     go_wp2
     go_ret
     exact ⟨by first | rfl | (simp; done) | (simp [*]; done), by repeat (first | exact Drawn0.refl _ | apply Drawn0.step)⟩
    ·rw [if_neg c8] at H
     have c8b0 : (x0_1.toList == ([] : List UInt8)) = false := beq_eq_false_iff_ne.mpr c8
     have c8b1 : (x0_1.toList != ([] : List UInt8)) = true := bne_iff_ne.mpr c8
     obtain rfl := Option.some.inj H
     go_wp2
     go_ret
     exact ⟨by first | rfl | (simp; done) | (simp [*]; done), by repeat (first | exact Drawn0.refl _ | apply Drawn0.step)⟩

theorem offcutref01_cut.ev_n (n : Nat) : ∀ {l : List Nat}, l.length = n → Dec.Ds l → Ev (fun k => offcutref01_cut.f k (Dec.tx l)) (Dec.dec (Dec.dv l)) := by
 induction n with
 | zero =>
  intro l hl h
  obtain rfl : l = [] := List.eq_nil_of_length_eq_zero hl
  refine Ev.step (f := fun _ => some (Dec.dec (Dec.dv []))) (fun k => ?_) (Ev.now _)
  show offcutref01_cut.l0 (k + 1) _ = _
  rw [offcutref01_cut.l0, Dec.tx_size, if_neg (by simp), if_pos (by rw [Dec.tx_toList]; rfl), ← Dec.dec_zero]
  rfl
 | succ n ih =>
  intro l hl h
  rcases List.eq_nil_or_concat l with rfl | ⟨l', d, rfl⟩
  ·simp at hl
  ·rw [List.concat_eq_append] at hl h ⊢
   have hd : d < 10 := h.right.head
   have hn : l'.length = n := by simpa using hl
   have hnn : (Dec.tx (l' ++ [d])).toList ≠ [] := by rw [Dec.tx_toList]; simp
   have hbt := Dec.bt_tx h 0 (by simp)
   rw [show (l' ++ [d]).length - 1 - 0 = l'.length from by simp] at hbt
   rw [show (l' ++ [d]).getD l'.length 0 = d from by simp] at hbt
   by_cases h0 : n = 0
   ·obtain rfl : l' = [] := List.eq_nil_of_length_eq_zero (by omega)
    refine Ev.step (f := fun _ => some (Dec.tx ([] ++ [d]))) (fun k => ?_) ?_
    ·show offcutref01_cut.l0 (k + 1) _ = _
     rw [offcutref01_cut.l0, Dec.tx_size, if_neg (by simp), if_neg hnn]
    ·by_cases hd0 : d = 0
     ·subst hd0
      exact Ev.now _
     ·unfold Dec.dec
      rw [Dec.dc_snoc Dec.Ds.nil hd hd0]
      exact Ev.now _
   ·by_cases hd0 : d = 0
    ·subst hd0
     refine Ev.step (f := fun k => offcutref01_cut.f k (Dec.tx l')) (fun k => ?_) ?_
     ·show offcutref01_cut.l0 (k + 1) _ = offcutref01_cut.l0 k _
      rw [offcutref01_cut.l0, Dec.tx_tail, Dec.tx_size, if_pos (by simp <;> omega), if_pos (by simp <;> omega), if_pos (by rw [← Int.natCast_zero, hbt] <;> rfl), if_pos (by simp <;> omega)]
     ·rw [Dec.dv_snoc, Nat.mul_zero, Nat.add_zero]
      exact ih hn h.left
    ·refine Ev.step (f := fun _ => some (Dec.tx (l' ++ [d]))) (fun k => ?_) ?_
     ·show offcutref01_cut.l0 (k + 1) _ = _
      rw [offcutref01_cut.l0, Dec.tx_size, if_pos (by simp <;> omega), if_pos (by simp <;> omega), if_neg (by rw [← Int.natCast_zero, hbt] <;> omega), if_neg hnn]
     ·unfold Dec.dec
      rw [Dec.dc_snoc h.left hd hd0]
      exact Ev.now _
theorem offcutref01_cut.ev {l : List Nat} (h : Dec.Ds l) : Ev (fun k => offcutref01_cut.f k (Dec.tx l)) (Dec.dec (Dec.dv l)) := offcutref01_cut.ev_n _ rfl h
def offcutref01_at.f (a0 : ByteArray) (a1 : Int) : Option (Int) := if a1 < (a0.size : Int) then (if 0 ≤ (wrap64 ((wrap64 ((a0.size : Int) - 1)) - a1)) then (if (wrap64 ((wrap64 ((a0.size : Int) - 1)) - a1)) < (a0.size : Int) then (some (((bt a0 (wrap64 ((wrap64 ((a0.size : Int) - 1)) - a1))) - 48) % 256)) else (none)) else (none)) else (some 0)
set_option maxHeartbeats 8000000 in
set_option maxRecDepth 100000 in
theorem offcutref01_at.calls (a0 : ByteArray) (a1 : Int) (r : Int) (w : World) (h : offcutref01_at.f a0 a1 = some r) :
  Calls Try.prog 82 #[.string a0, .int .i64 a1] w fun e w' => e = .returned (.int .i64 r) ∧ Drawn0 w w' := by
 have H : (if a1 < (a0.size : Int) then (if 0 ≤ (wrap64 ((wrap64 ((a0.size : Int) - 1)) - a1)) then (if (wrap64 ((wrap64 ((a0.size : Int) - 1)) - a1)) < (a0.size : Int) then (some (((bt a0 (wrap64 ((wrap64 ((a0.size : Int) - 1)) - a1))) - 48) % 256)) else (none)) else (none)) else (some 0)) = some r := h
 clear h
 by_cases c3 : a1 < (a0.size : Int)
 ·rw [if_pos c3] at H
  have c3b0 : decide (a1 < (a0.size : Int)) = true := decide_eq_true c3
  clear c3
  obtain ⟨ji4, hji4⟩ : ∃ j_ : Int, (wrap64 ((wrap64 ((a0.size : Int) - 1)) - a1)) = j_ := ⟨_, rfl⟩
  replace H : (if 0 ≤ (ji4) then (if (ji4) < (a0.size : Int) then (some (((bt a0 (ji4)) - 48) % 256)) else (none)) else (none)) = some r := by first | (rw [hji4] at H; exact H) | (simp only [hji4] at H ⊢; exact H)
  have hji4w : (IntKind.i64.wrap ((wrap64 ((a0.size : Int) - 1)) - a1)) = ji4 := (i64_w _).trans hji4
  by_cases c5 : 0 ≤ (ji4)
  ·rw [if_pos c5] at H
   have c5b0 : decide (0 ≤ (ji4)) = true := decide_eq_true c5
   clear c5
   by_cases c6 : (ji4) < (a0.size : Int)
   ·rw [if_pos c6] at H
    have c6b0 : decide ((ji4) < (a0.size : Int)) = true := decide_eq_true c6
    clear c6
    obtain rfl := Option.some.inj H
    have p7 : 0 ≤ ((ji4) : Int) := of_decide_eq_true (by first | (with_reducible assumption) | assumption)
    have q7 : (ji4) < (a0.size : Int) := of_decide_eq_true (by first | (with_reducible assumption) | assumption)
    have hx7 := bt_at a0 (ji4)
    replace p7 := eq_true p7
    replace q7 := eq_true q7
    go_enter Try.func82, Try.ntmps82
    go_wp2
    go_ret
    exact ⟨by first | rfl | (simp; done) | (simp only [← hji4] <;> (first | rfl | simp)) | (simp [*]; done), by repeat (first | exact Drawn0.refl _ | apply Drawn0.step)⟩
   ·rw [if_neg c6] at H
    exact absurd H (by simp)
  ·rw [if_neg c5] at H
   exact absurd H (by simp)
 ·rw [if_neg c3] at H
  have c3b0 : decide (a1 < (a0.size : Int)) = false := decide_eq_false c3
  clear c3
  obtain rfl := Option.some.inj H
  go_enter Try.func82, Try.ntmps82
  go_wp2
  go_ret
  exact ⟨by first | rfl | (simp; done) | (simp [*]; done), by repeat (first | exact Drawn0.refl _ | apply Drawn0.step)⟩

theorem offcutref01_at.sem {l : List Nat} (h : Dec.Ds l) (hl : l.length < 9223372036854775807) (i : Nat) : offcutref01_at.f (Dec.tx l) (i : Int) = some ((l.getD i 0 : Nat) : Int) := by
 unfold offcutref01_at.f
 rw [Dec.tx_size]
 by_cases hi : i < l.length
 ·rw [if_pos (by omega), Dec.w64p _ (by omega) (by omega), Dec.w64d _ _ (by omega) (by omega), if_pos (by omega), if_pos (by omega), Dec.bt_tx h _ (by omega)]
  have := h.getD i
  rw [show l.length - 1 - (l.length - 1 - i) = i from by omega]
  congr 1
  omega
 ·rw [if_neg (by omega), List.getD_eq_getElem?_getD, List.getElem?_eq_none (by omega)]
  rfl
def offcutref01_Sub.l0 : Nat → ByteArray → ByteArray → ByteArray → Int → Int → Option (ByteArray)
 | 0, _, _, _, _, _ => none
 | k + 1, x0, x1, x5, x6, x7 => if x7 < (x0.size : Int) then ((offcutref01_at.f x0 x7).bind fun t600 => ((offcutref01_at.f x1 x7).bind fun t601 => ((offcutref01_sign.f (Int.tmod (wrap64 ((wrap64 ((wrap64 (t600 - t601)) - x6)) + 10)) 10)).bind fun t602 => (if t602.size + x5.size ≤ 9223372036854775807 then (offcutref01_Sub.l0 k x0 x1 (t602 ++ x5) (wrap64 (1 - (wrap64 (Int.tdiv (wrap64 ((wrap64 ((wrap64 (t600 - t601)) - x6)) + 10)) 10)))) (wrap64 (x7 + 1))) else (none))))) else ((offcutref01_cut.f k x5).bind fun t603 => (some t603))
def offcutref01_Sub.f (k : Nat) (a0 : ByteArray) (a1 : ByteArray) : Option (ByteArray) := offcutref01_Sub.l0 k a0 a1 (⟨#[]⟩ : ByteArray) 0 0
set_option maxHeartbeats 8000000 in
set_option maxRecDepth 100000 in
theorem offcutref01_Sub.calls (k : Nat) (a0 : ByteArray) (a1 : ByteArray) (r : ByteArray) (w : World) (h : offcutref01_Sub.f k a0 a1 = some r) :
  Calls Try.prog 58 #[.string a0, .string a1] w fun e w' => e = .returned (.string r) ∧ Drawn0 w w' := by
 have H : (offcutref01_Sub.l0 k a0 a1 (⟨#[]⟩ : ByteArray) 0 0) = some r := h
 clear h
 have H' := Aside0.mk H
 clear H
 go_enter Try.func58, Try.ntmps58
 go_wp2
 go_loopg [5, 6, 7] k (fun kq v5 v6 v7 w' => ∃ (x5_1 : ByteArray) (x6_1 : Int) (x7_1 : Int), v5 = .string x5_1 ∧ v6 = .int .i64 x6_1 ∧ v7 = .int .i64 x7_1 ∧ Aside0 (offcutref01_Sub.l0 kq a0 a1 x5_1 x6_1 x7_1 = some r) ∧ Aside0 (kq ≤ k) ∧ Drawn0 w w')
 case atStart => exact ⟨((⟨#[]⟩ : ByteArray)), (0), (0), (by first | rfl | (simp; done) | (simp [*]; done)), (by first | rfl | (simp; done) | (simp [*]; done)), (by first | rfl | (simp; done) | (simp [*]; done)), H', ⟨Nat.le_refl _⟩, by repeat (first | exact Drawn0.refl _ | apply Drawn0.step)⟩
 case round =>
  clear H'
  try clear p2
  obtain ⟨x5_1, x6_1, x7_1, rfl, rfl, rfl, HA, HK1, ⟨m1, rfl⟩⟩ := hrel
  cases gk with
  | zero => exact absurd HA.out (by simp [offcutref01_Sub.l0])
  | succ k1 =>
   have H := HA.out
   clear HA
   simp only [offcutref01_Sub.l0] at H
   by_cases c3 : x7_1 < (a0.size : Int)
   ·rw [if_pos c3] at H
    have c3b0 : decide (x7_1 < (a0.size : Int)) = true := decide_eq_true c3
    clear c3
    replace H := Option.bind_eq_some_iff.mp H
    obtain ⟨t600, A40, H⟩ := H
    try dsimp only at H
    have A4 := Aside0.mk A40
    clear A40
    replace H := Option.bind_eq_some_iff.mp H
    obtain ⟨t601, A50, H⟩ := H
    try dsimp only at H
    have A5 := Aside0.mk A50
    clear A50
    replace H := Option.bind_eq_some_iff.mp H
    obtain ⟨t602, A60, H⟩ := H
    try dsimp only at H
    have A6 := Aside0.mk A60
    clear A60
    by_cases c7 : t602.size + x5_1.size ≤ 9223372036854775807
    ·rw [if_pos c7] at H
     have c7b0 := eq_true c7
     have c7b1 : decide (t602.size + x5_1.size ≤ 9223372036854775807) = true := decide_eq_true c7
     try have c7b2 : (9223372036854775807 < t602.size + x5_1.size) = False := eq_false (Nat.not_lt.2 c7)
     have H' := Aside0.mk H
     clear H
     go_wp2_with (first | ((with_reducible refine gate_callee (f := 82) rfl ?_); refine Short.goesS_ (some 17) Try.func82 #[.string a0, .int .i64 x7_1] ?_; (with_reducible refine (offcutref01_at.calls a0 x7_1 t600 _ A4.out).mono ?_); rintro e w' ⟨rfl, ⟨nd, rfl⟩⟩; refine ⟨_, rfl, ?_⟩) | ((with_reducible refine gate_callee (f := 82) rfl ?_); refine Short.goesS_ (some 20) Try.func82 #[.string a1, .int .i64 x7_1] ?_; (with_reducible refine (offcutref01_at.calls a1 x7_1 t601 _ A5.out).mono ?_); rintro e w' ⟨rfl, ⟨nd, rfl⟩⟩; refine ⟨_, rfl, ?_⟩) | ((with_reducible refine gate_callee (f := 80) rfl ?_); refine Short.goesS_ (some 27) Try.func80 #[.int .i64 (Int.tmod (wrap64 ((wrap64 ((wrap64 (t600 - t601)) - x6_1)) + 10)) 10)] ?_; (with_reducible refine (offcutref01_sign.calls (Int.tmod (wrap64 ((wrap64 ((wrap64 (t600 - t601)) - x6_1)) + 10)) 10) t602 _ A6.out).mono ?_); rintro e w' ⟨rfl, ⟨nd, rfl⟩⟩; refine ⟨_, rfl, ?_⟩))
     go_roundg k1
     case measure => have := HK1.out; omega
     case rel => exact ⟨(t602 ++ x5_1), (wrap64 (1 - (wrap64 (Int.tdiv (wrap64 ((wrap64 ((wrap64 (t600 - t601)) - x6_1)) + 10)) 10)))), (wrap64 (x7_1 + 1)), (by first | rfl | (simp; done) | (simp [*]; done)), (by first | rfl | (simp; done) | (simp [*]; done)), (by first | rfl | (simp; done) | (simp [*]; done)), H', ⟨by have := HK1.out; omega⟩, by repeat (first | exact Drawn0.refl _ | apply Drawn0.step)⟩
    ·rw [if_neg c7] at H
     exact absurd H (by simp)
   ·rw [if_neg c3] at H
    have c3b0 : decide (x7_1 < (a0.size : Int)) = false := decide_eq_false c3
    clear c3
    replace H := Option.bind_eq_some_iff.mp H
    obtain ⟨t603, A80, H⟩ := H
    replace H : (some t603) = some r := H
    have A8 := Aside0.mk A80
    clear A80
    obtain rfl := Option.some.inj H
    go_wp2_with (first | ((with_reducible refine gate_callee (f := 81) rfl ?_); refine Short.goesS_ (some 34) Try.func81 #[.string x5_1] ?_; (with_reducible refine (offcutref01_cut.calls k1 x5_1 t603 _ A8.out).mono ?_); rintro e w' ⟨rfl, ⟨nd, rfl⟩⟩; refine ⟨_, rfl, ?_⟩))
    go_ret
    exact ⟨by first | rfl | (simp; done) | (simp [*]; done), by repeat (first | exact Drawn0.refl _ | apply Drawn0.step)⟩

theorem offcutref01_Sub.ev_l {a b : List Nat} (ha : Dec.Ds a) (hb : Dec.Ds b) (la : a.length < 1000000000) (lb : b.length ≤ a.length) (hba : Dec.dv b ≤ Dec.dv a) (d : Nat) : ∀ (out : List Nat) (c : Nat), out.length + d = a.length → Dec.Ds out → c ≤ 1 →
  Dec.dv (a.take out.length) + 10 ^ out.length * c = Dec.dv out + Dec.dv (b.take out.length) → Ev (fun k => offcutref01_Sub.l0 k (Dec.tx a) (Dec.tx b) (Dec.tx out) (c : Int) (out.length : Int)) (Dec.dec (Dec.dv a - Dec.dv b)) := by
 induction d with
 | zero =>
  intro out c hd ho hc hv
  have h1 := Dec.dv_lt ho
  rw [List.take_of_length_le (by omega), List.take_of_length_le (by omega)] at hv
  have hvv : Dec.dv out = Dec.dv a - Dec.dv b := by
   rcases Nat.eq_zero_or_pos c with h | h
   ·subst h; omega
   ·obtain rfl : c = 1 := by omega
    omega
  refine Ev.step (f := fun k => (offcutref01_cut.f k (Dec.tx out)).bind fun t => some t) (fun k => ?_) ?_
  ·rw [offcutref01_Sub.l0, Dec.tx_size, if_neg (by omega)]
  ·rw [← hvv]
   exact Ev.bind (offcutref01_cut.ev ho) (Ev.now _)
 | succ d ih =>
  intro out c hd ho hc hv
  have h1 := ha.getD out.length
  have h2 := hb.getD out.length
  obtain ⟨p, hp⟩ : ∃ p, p = a.getD out.length 0 := ⟨_, rfl⟩
  obtain ⟨q, hq⟩ : ∃ q, q = b.getD out.length 0 := ⟨_, rfl⟩
  rw [← hp] at h1
  rw [← hq] at h2
  obtain ⟨n, hn⟩ : ∃ n, n = p + 10 - q - c := ⟨_, rfl⟩
  have e1 : wrap64 ((wrap64 ((wrap64 ((p : Int) - (q : Int))) - (c : Int))) + 10) = (n : Int) := by
   rw [Dec.w64 (n := (p : Int) - (q : Int)) (by omega) (by omega), Dec.w64 (n := (p : Int) - (q : Int) - (c : Int)) (by omega) (by omega), Dec.w64 (by omega) (by omega)]
   omega
  have e2 : wrap64 (1 - ((n / 10 : Nat) : Int)) = ((1 - n / 10 : Nat) : Int) := by
   rw [Dec.w64 (by omega) (by omega)]
   omega
  refine Ev.step (f := fun k => offcutref01_Sub.l0 k (Dec.tx a) (Dec.tx b) (Dec.tx (out ++ [n % 10])) ((1 - n / 10 : Nat) : Int) ((out.length + 1 : Nat) : Int)) (fun k => ?_) ?_
  ·rw [offcutref01_Sub.l0, Dec.tx_size, if_pos (by omega), offcutref01_at.sem ha (by omega), offcutref01_at.sem hb (by omega), ← hp, ← hq, Option.bind_some, Option.bind_some, e1, Dec.tmod10, Dec.tdiv10, offcutref01_sign.sem _ (Nat.mod_lt _ (by omega)), Option.bind_some, Dec.tx_append, Dec.tx_size, Dec.tx_size, if_pos (by rw [List.length_singleton]; omega), Dec.w64n _ (by omega), e2, Dec.w64s _ (by omega)]
  ·have := ih (out ++ [n % 10]) (1 - n / 10) (by rw [List.length_append, List.length_singleton]; omega) (ho.snoc (Nat.mod_lt _ (by omega))) (by omega) (by
    rw [List.length_append, List.length_singleton, Dec.dv_take_succ, Dec.dv_take_succ, ← hp, ← hq, Dec.dv_snoc, Nat.pow_succ]
    have h3 : 10 ^ out.length * (p + 10 * (1 - n / 10)) = 10 ^ out.length * (n % 10 + q + c) := by congr 1; omega
    rw [Nat.mul_add, Nat.mul_add, Nat.mul_add, ← Nat.mul_assoc] at h3
    omega)
   rw [List.length_append, List.length_singleton] at this
   exact this
theorem offcutref01_Sub.ev {a b : List Nat} (ha : Dec.Ds a) (hb : Dec.Ds b) (la : a.length < 1000000000) (lb : b.length ≤ a.length) (hba : Dec.dv b ≤ Dec.dv a) : Ev (fun k => offcutref01_Sub.f k (Dec.tx a) (Dec.tx b)) (Dec.dec (Dec.dv a - Dec.dv b)) :=
 offcutref01_Sub.ev_l ha hb la lb hba a.length [] 0 (by rw [List.length_nil]; omega) Dec.Ds.nil (by omega) (by rw [List.length_nil, List.take_zero, List.take_zero]; rfl)
theorem offcutref01_Sub.ev_dec {m n : Nat} (h : n ≤ m) (hl : (Dec.dc m).length < 1000000000) : Ev (fun k => offcutref01_Sub.f k (Dec.dec m) (Dec.dec n)) (Dec.dec (m - n)) := by
 have hlen : (Dec.dc n).length ≤ (Dec.dc m).length := by
  rcases Nat.lt_or_ge (Dec.dc m).length (Dec.dc n).length with h1 | h1
  ·have := Dec.dc_len_lt h1
   omega
  ·exact h1
 have := offcutref01_Sub.ev (Dec.Ds_dc m) (Dec.Ds_dc n) hl hlen (by rw [Dec.dv_dc, Dec.dv_dc]; exact h)
 rw [Dec.dv_dc, Dec.dv_dc] at this
 exact this
set_option synthInstance.checkSynthOrder false in
open Lin in
instance offcutref01_Sub.t {k : Nat} {a0 : ByteArray} {a1 : ByteArray} {r : ByteArray} [h : Ans (offcutref01_Sub.f k a0 a1) r] : Tl Try.prog 58 [.one (.val (.string a0)), .one (.val (.string a1))] (.el (.one (.val (.string r)))) := ⟨Tells.of Try.func58 fun out w vs ho hl hv => by
 obtain ⟨u0, u1, rfl, h0, h1⟩ := args2 hl hv
 obtain rfl := h0.1
 obtain rfl := h1.1
 refine (offcutref01_Sub.calls k a0 a1 _ w h.out).mono ?_
 rintro e w' ⟨rfl, hb⟩
 exact ⟨_, rfl, ⟨rfl, rfl⟩, below_of_drawn hb⟩⟩
mutual
def offcutref01_DivMod.l0 : Nat → ByteArray → ByteArray → ByteArray → ByteArray → Int → Option (ByteArray × ByteArray)
 | 0, _, _, _, _, _ => none
 | k + 1, x0, x1, x6, x7, x8 => if x8 < (x0.size : Int) then (if 0 ≤ x8 then (if x8 ≤ (wrap64 (x8 + 1)) then (if (wrap64 (x8 + 1)) ≤ (x0.size : Int) then (if x7.size + (x0.extract (x8 : Int).toNat ((wrap64 (x8 + 1)) : Int).toNat).size ≤ 9223372036854775807 then ((offcutref01_cut.f k (x7 ++ (x0.extract (x8 : Int).toNat ((wrap64 (x8 + 1)) : Int).toNat))).bind fun t605 => (offcutref01_DivMod.l1 k x0 x1 x6 t605 x8 0)) else (none)) else (none)) else (none)) else (none)) else ((offcutref01_cut.f k x6).bind fun t604 => (some (t604, x7)))
def offcutref01_DivMod.l1 : Nat → ByteArray → ByteArray → ByteArray → ByteArray → Int → Int → Option (ByteArray × ByteArray)
 | 0, _, _, _, _, _, _ => none
 | k + 1, x0, x1, x6, x7, x8, x9 => (offcutref01_Less.f x7 x1).bind fun t606 => (if t606 = true then ((offcutref01_sign.f x9).bind fun t607 => (if x6.size + t607.size ≤ 9223372036854775807 then (offcutref01_DivMod.l0 k x0 x1 (x6 ++ t607) x7 (wrap64 (x8 + 1))) else (none))) else ((offcutref01_Sub.f k x7 x1).bind fun t608 => (offcutref01_DivMod.l1 k x0 x1 x6 t608 x8 (wrap64 (x9 + 1)))))
end
def offcutref01_DivMod.f (k : Nat) (a0 : ByteArray) (a1 : ByteArray) : Option (ByteArray × ByteArray) := offcutref01_DivMod.l0 k a0 a1 (⟨#[]⟩ : ByteArray) (⟨#[48]⟩ : ByteArray) 0
set_option maxHeartbeats 8000000 in
set_option maxRecDepth 100000 in
theorem offcutref01_DivMod.calls (k : Nat) (a0 : ByteArray) (a1 : ByteArray) (r1 : ByteArray) (r2 : ByteArray) (w : World) (h : offcutref01_DivMod.f k a0 a1 = some (r1, r2)) :
  Calls Try.prog 53 #[.string a0, .string a1] w fun e w' => e = .returned (.tuple #[.string r1, .string r2]) ∧ Drawn0 w w' := by
 have H : (offcutref01_DivMod.l0 k a0 a1 (⟨#[]⟩ : ByteArray) (⟨#[48]⟩ : ByteArray) 0) = some (r1, r2) := h
 clear h
 have H' := Aside0.mk H
 clear H
 go_enter Try.func53, Try.ntmps53
 go_wp2
 go_loopg [6, 7, 8] k (fun kq v6 v7 v8 w' => ∃ (x6_1 : ByteArray) (x7_1 : ByteArray) (x8_1 : Int), v6 = .string x6_1 ∧ v7 = .string x7_1 ∧ v8 = .int .i64 x8_1 ∧ Aside0 (offcutref01_DivMod.l0 kq a0 a1 x6_1 x7_1 x8_1 = some (r1, r2)) ∧ Aside0 (kq ≤ k) ∧ Drawn0 w w')
 case atStart => exact ⟨((⟨#[]⟩ : ByteArray)), ((⟨#[48]⟩ : ByteArray)), (0), (by first | rfl | (simp; done) | (simp [*]; done)), (by first | rfl | (simp; done) | (simp [*]; done)), (by first | rfl | (simp; done) | (simp [*]; done)), H', ⟨Nat.le_refl _⟩, by repeat (first | exact Drawn0.refl _ | apply Drawn0.step)⟩
 case round =>
  clear H'
  try clear p2
  obtain ⟨x6_1, x7_1, x8_1, rfl, rfl, rfl, HA, HK1, ⟨m1, rfl⟩⟩ := hrel
  cases gk with
  | zero => exact absurd HA.out (by simp [offcutref01_DivMod.l0])
  | succ k1 =>
   have H := HA.out
   clear HA
   simp only [offcutref01_DivMod.l0] at H
   by_cases c3 : x8_1 < (a0.size : Int)
   ·rw [if_pos c3] at H
    have c3b0 : decide (x8_1 < (a0.size : Int)) = true := decide_eq_true c3
    clear c3
    by_cases c4 : 0 ≤ x8_1
    ·rw [if_pos c4] at H
     have c4b0 := eq_true c4
     have c4b1 : decide (0 ≤ x8_1) = true := decide_eq_true c4
     clear c4
     by_cases c5 : x8_1 ≤ (wrap64 (x8_1 + 1))
     ·rw [if_pos c5] at H
      have c5b0 := eq_true c5
      have c5b1 : decide (x8_1 ≤ (wrap64 (x8_1 + 1))) = true := decide_eq_true c5
      by_cases c6 : (wrap64 (x8_1 + 1)) ≤ (a0.size : Int)
      ·rw [if_pos c6] at H
       have c6b0 := eq_true c6
       have c6b1 : decide ((wrap64 (x8_1 + 1)) ≤ (a0.size : Int)) = true := decide_eq_true c6
       by_cases c7 : x7_1.size + (a0.extract (x8_1 : Int).toNat ((wrap64 (x8_1 + 1)) : Int).toNat).size ≤ 9223372036854775807
       ·rw [if_pos c7] at H
        have c7b0 := eq_true c7
        have c7b1 : decide (x7_1.size + (a0.extract (x8_1 : Int).toNat ((wrap64 (x8_1 + 1)) : Int).toNat).size ≤ 9223372036854775807) = true := decide_eq_true c7
        try have c7b2 : (9223372036854775807 < x7_1.size + (a0.extract (x8_1 : Int).toNat ((wrap64 (x8_1 + 1)) : Int).toNat).size) = False := eq_false (Nat.not_lt.2 c7)
        replace H := Option.bind_eq_some_iff.mp H
        obtain ⟨t605, A80, H⟩ := H
        try dsimp only at H
        have A8 := Aside0.mk A80
        clear A80
        have H' := Aside0.mk H
        clear H
        go_wp2_with (first | ((with_reducible refine gate_callee (f := 81) rfl ?_); refine Short.goesS_ (some 23) Try.func81 #[.string (x7_1 ++ (a0.extract (x8_1 : Int).toNat ((wrap64 (x8_1 + 1)) : Int).toNat))] ?_; (with_reducible refine (offcutref01_cut.calls k1 (x7_1 ++ (a0.extract (x8_1 : Int).toNat ((wrap64 (x8_1 + 1)) : Int).toNat)) t605 _ A8.out).mono ?_); rintro e w' ⟨rfl, ⟨nd, rfl⟩⟩; refine ⟨_, rfl, ?_⟩))
        go_loopg [7, 9] k1 (fun kq v7 v9 w' => ∃ (x7_2 : ByteArray) (x9_2 : Int), v7 = .string x7_2 ∧ v9 = .int .i64 x9_2 ∧ Aside0 (offcutref01_DivMod.l1 kq a0 a1 x6_1 x7_2 x8_1 x9_2 = some (r1, r2)) ∧ Aside0 (kq ≤ k1) ∧ Drawn0 w w')
        case atStart => exact ⟨(t605), (0), (by first | rfl | (simp; done) | (simp [*]; done)), (by first | rfl | (simp; done) | (simp [*]; done)), H', ⟨Nat.le_refl _⟩, by repeat (first | exact Drawn0.refl _ | apply Drawn0.step)⟩
        case round =>
         clear H'
         try clear p2
         try clear c3
         try clear c3b0
         try clear c4
         try clear c4b0
         try clear c4b1
         try clear c5
         try clear c5b0
         try clear c5b1
         try clear c6
         try clear c6b0
         try clear c6b1
         try clear p6
         try clear c7
         try clear c7b0
         try clear c7b1
         try clear c7b2
         try clear c8
         try clear p2
         obtain ⟨x7_2, x9_2, rfl, rfl, HA, HK2, ⟨m2, rfl⟩⟩ := hrel
         cases gk with
         | zero => exact absurd HA.out (by simp [offcutref01_DivMod.l1])
         | succ k2 =>
          have H := HA.out
          clear HA
          simp only [offcutref01_DivMod.l1] at H
          replace H := Option.bind_eq_some_iff.mp H
          obtain ⟨t606, A90, H⟩ := H
          try dsimp only at H
          have A9 := Aside0.mk A90
          clear A90
          by_cases c10 : t606 = true
          ·subst c10
           have H1 : ((offcutref01_sign.f x9_2).bind fun t607 => (if x6_1.size + t607.size ≤ 9223372036854775807 then (offcutref01_DivMod.l0 k2 a0 a1 (x6_1 ++ t607) x7_2 (wrap64 (x8_1 + 1))) else (none))) = some (r1, r2) := by rw [if_pos rfl] at H; exact H
           clear H
           have H := H1
           clear H1
           replace H := Option.bind_eq_some_iff.mp H
           obtain ⟨t607, A110, H⟩ := H
           try dsimp only at H
           have A11 := Aside0.mk A110
           clear A110
           by_cases c12 : x6_1.size + t607.size ≤ 9223372036854775807
           ·rw [if_pos c12] at H
            have c12b0 := eq_true c12
            have c12b1 : decide (x6_1.size + t607.size ≤ 9223372036854775807) = true := decide_eq_true c12
            try have c12b2 : (9223372036854775807 < x6_1.size + t607.size) = False := eq_false (Nat.not_lt.2 c12)
            have H' := Aside0.mk H
            clear H
            go_wp2_with (first | ((with_reducible refine gate_callee (f := 57) rfl ?_); refine Short.goesS_ (some 26) Try.func57 #[.string x7_2, .string a1] ?_; (with_reducible refine (offcutref01_Less.calls x7_2 a1 true _ A9.out).mono ?_); rintro e w' ⟨rfl, ⟨nd, rfl⟩⟩; refine ⟨_, rfl, ?_⟩) | ((with_reducible refine gate_callee (f := 80) rfl ?_); refine Short.goesS_ (some 35) Try.func80 #[.int .i64 x9_2] ?_; (with_reducible refine (offcutref01_sign.calls x9_2 t607 _ A11.out).mono ?_); rintro e w' ⟨rfl, ⟨nd, rfl⟩⟩; refine ⟨_, rfl, ?_⟩))
            go_roundg k2
            case measure => have := HK1.out; have := HK2.out; omega
            case rel => exact ⟨(x6_1 ++ t607), (x7_2), (wrap64 (x8_1 + 1)), (by first | rfl | (simp; done) | (simp [*]; done)), (by first | rfl | (simp; done) | (simp [*]; done)), (by first | rfl | (simp; done) | (simp [*]; done)), H', ⟨by have := HK1.out; have := HK2.out; omega⟩, by repeat (first | exact Drawn0.refl _ | apply Drawn0.step)⟩
           ·rw [if_neg c12] at H
            exact absurd H (by simp)
          ·replace c10 := Bool.eq_false_iff.mpr c10
           subst c10
           have H1 : ((offcutref01_Sub.f k2 x7_2 a1).bind fun t608 => (offcutref01_DivMod.l1 k2 a0 a1 x6_1 t608 x8_1 (wrap64 (x9_2 + 1)))) = some (r1, r2) := by rw [if_neg (show ¬ (false = true) by decide)] at H; exact H
           clear H
           have H := H1
           clear H1
           replace H := Option.bind_eq_some_iff.mp H
           obtain ⟨t608, A130, H⟩ := H
           try dsimp only at H
           have A13 := Aside0.mk A130
           clear A130
           have H' := Aside0.mk H
           clear H
           go_wp2_with (first | ((with_reducible refine gate_callee (f := 57) rfl ?_); refine Short.goesS_ (some 26) Try.func57 #[.string x7_2, .string a1] ?_; (with_reducible refine (offcutref01_Less.calls x7_2 a1 false _ A9.out).mono ?_); rintro e w' ⟨rfl, ⟨nd, rfl⟩⟩; refine ⟨_, rfl, ?_⟩) | ((with_reducible refine gate_callee (f := 58) rfl ?_); refine Short.goesS_ (some 30) Try.func58 #[.string x7_2, .string a1] ?_; (with_reducible refine (offcutref01_Sub.calls k2 x7_2 a1 t608 _ A13.out).mono ?_); rintro e w' ⟨rfl, ⟨nd, rfl⟩⟩; refine ⟨_, rfl, ?_⟩))
           go_roundg k2
           case measure => have := HK1.out; have := HK2.out; omega
           case rel => exact ⟨(t608), (wrap64 (x9_2 + 1)), (by first | rfl | (simp; done) | (simp [*]; done)), (by first | rfl | (simp; done) | (simp [*]; done)), H', ⟨by have := HK1.out; have := HK2.out; omega⟩, by repeat (first | exact Drawn0.refl _ | apply Drawn0.step)⟩
       ·rw [if_neg c7] at H
        exact absurd H (by simp)
      ·rw [if_neg c6] at H
       exact absurd H (by simp)
     ·rw [if_neg c5] at H
      exact absurd H (by simp)
    ·rw [if_neg c4] at H
     exact absurd H (by simp)
   ·rw [if_neg c3] at H
    have c3b0 : decide (x8_1 < (a0.size : Int)) = false := decide_eq_false c3
    clear c3
    replace H := Option.bind_eq_some_iff.mp H
    obtain ⟨t604, A140, H⟩ := H
    replace H : (some (t604, x7_1)) = some (r1, r2) := H
    have A14 := Aside0.mk A140
    clear A140
    simp only [Option.some.injEq, Prod.mk.injEq] at H
    obtain ⟨rfl, rfl⟩ := H
    go_wp2_with (first | ((with_reducible refine gate_callee (f := 81) rfl ?_); refine Short.goesS_ (some 38) Try.func81 #[.string x6_1] ?_; (with_reducible refine (offcutref01_cut.calls k1 x6_1 t604 _ A14.out).mono ?_); rintro e w' ⟨rfl, ⟨nd, rfl⟩⟩; refine ⟨_, rfl, ?_⟩))
    go_ret2
    exact ⟨by first | rfl | (simp; done) | (simp [*]; done), by repeat (first | exact Drawn0.refl _ | apply Drawn0.step)⟩

/-- How often y goes into t: what is left, and the digit; then what follows. -/
theorem offcutref01_DivMod.ev_1 {x0 : ByteArray} {y : Nat} (hy : y ≠ 0) {qs : List Nat} (lq : qs.length < 1000000000) {i : Nat} (li : i < 1000000000) {r : ByteArray × ByteArray} {R n0 : Nat} (hR : R < y) (hn0 : n0 < 10)
  (next : Ev (fun k => offcutref01_DivMod.l0 k x0 (Dec.dec y) (Dec.tx (n0 :: qs)) (Dec.dec R) ((i + 1 : Nat) : Int)) r) (d : Nat) : ∀ (n : Nat), n + d = n0 → (Dec.dc (R + y * d)).length < 1000000000 →
  Ev (fun k => offcutref01_DivMod.l1 k x0 (Dec.dec y) (Dec.tx qs) (Dec.dec (R + y * d)) (i : Int) (n : Int)) r := by
 induction d with
 | zero =>
  intro n hn hl
  obtain rfl : n = n0 := by omega
  refine Ev.step (f := fun k => offcutref01_DivMod.l0 k x0 (Dec.dec y) (Dec.tx (n :: qs)) (Dec.dec R) ((i + 1 : Nat) : Int)) (fun k => ?_) next
  rw [offcutref01_DivMod.l1, offcutref01_Less.sem, Option.bind_some, Nat.mul_zero, Nat.add_zero, decide_eq_true hR, if_pos rfl, offcutref01_sign.sem _ hn0, Option.bind_some, Dec.tx_append, Dec.tx_size, Dec.tx_size, if_pos (by rw [List.length_singleton]; omega), Dec.w64s _ (by omega)]
  rfl
 | succ d ih =>
  intro n hn hl
  have hle : y ≤ R + y * (d + 1) := by rw [Nat.mul_succ]; omega
  have hs := offcutref01_Sub.ev_dec hle hl
  have e : R + y * (d + 1) - y = R + y * d := by rw [Nat.mul_succ]; omega
  rw [e] at hs
  have hl2 : (Dec.dc (R + y * d)).length < 1000000000 := by
   rcases Nat.lt_or_ge (Dec.dc (R + y * (d + 1))).length (Dec.dc (R + y * d)).length with h1 | h1
   ·have := Dec.dc_len_lt h1
    rw [Nat.mul_succ] at this
    omega
   ·omega
  refine Ev.step (f := fun k => (offcutref01_Sub.f k (Dec.dec (R + y * (d + 1))) (Dec.dec y)).bind fun t268 => (offcutref01_DivMod.l1 k x0 (Dec.dec y) (Dec.tx qs) t268 (i : Int) ((n + 1 : Nat) : Int))) (fun k => ?_) (Ev.bind hs (ih (n + 1) (by omega) hl2))
  rw [offcutref01_DivMod.l1, offcutref01_Less.sem, Option.bind_some, decide_eq_false (by omega), if_neg (by decide), Dec.w64s _ (by omega)]
theorem offcutref01_DivMod.ev_0 {a : List Nat} (ha : Dec.Ds a) (la : a.length < 100000000) {y : Nat} (hy : y ≠ 0) (ly : (Dec.dc y).length < 100000000) (d : Nat) : ∀ (qs : List Nat), qs.length + d = a.length → Dec.Ds qs → Dec.dv qs = Dec.dv (a.drop d) / y →
  Ev (fun k => offcutref01_DivMod.l0 k (Dec.tx a) (Dec.dec y) (Dec.tx qs) (Dec.dec (Dec.dv (a.drop d) % y)) (qs.length : Int)) (Dec.dec (Dec.dv a / y), Dec.dec (Dec.dv a % y)) := by
 induction d with
 | zero =>
  intro qs hl hq hv
  rw [List.drop_zero] at hv ⊢
  refine Ev.step (f := fun k => (offcutref01_cut.f k (Dec.tx qs)).bind fun t264 => (some (t264, Dec.dec (Dec.dv a % y)))) (fun k => ?_) ?_
  ·rw [offcutref01_DivMod.l0, Dec.tx_size, if_neg (by omega)]
  ·rw [← hv]
   exact Ev.bind (offcutref01_cut.ev hq) (Ev.now _)
 | succ d ih =>
  intro qs hl hq hv
  have hg := ha.getD d
  obtain ⟨g, hgd⟩ : ∃ g, g = a.getD d 0 := ⟨_, rfl⟩
  rw [← hgd] at hg
  obtain ⟨P, hP⟩ : ∃ P, P = Dec.dv (a.drop (d + 1)) := ⟨_, rfl⟩
  have hdrop : Dec.dv (a.drop d) = g + 10 * P := by
   rw [List.drop_eq_getElem_cons (by omega), Dec.dv, hP]
   have : a[d] = g := by rw [hgd, List.getD_eq_getElem?_getD, List.getElem?_eq_getElem (by omega)]; rfl
   rw [this]
  rw [← hP] at hv ⊢
  have hr := Nat.mod_lt P (Nat.pos_of_ne_zero hy)
  have hPe := Nat.div_add_mod P y
  obtain ⟨t, ht⟩ : ∃ t, t = g + 10 * (P % y) := ⟨_, rfl⟩
  have htot : Dec.dv (a.drop d) = t + y * (10 * (P / y)) := by
   rw [hdrop, ht]
   have h1 : y * (10 * (P / y)) = 10 * (y * (P / y)) := Nat.mul_left_comm _ _ _
   omega
  have hq1 : Dec.dv (a.drop d) / y = t / y + 10 * (P / y) := by rw [htot, Nat.add_mul_div_left _ _ (Nat.pos_of_ne_zero hy)]
  have hm1 : Dec.dv (a.drop d) % y = t % y := by rw [htot, Nat.add_mul_mod_self_left]
  have htl : t < 10 * y := by omega
  have hn : t / y < 10 := Nat.div_lt_of_lt_mul (by rw [Nat.mul_comm]; exact htl)
  have hte : t % y + y * (t / y) = t := Nat.mod_add_div t y
  have ht2 : (Dec.dc t).length ≤ (Dec.dc y).length + 1 := by
   have h1 := Dec.dv_lt (Dec.Ds_dc y)
   rw [Dec.dv_dc] at h1
   refine Dec.dc_length_le (by omega) ?_
   rw [Nat.pow_succ]
   omega
  have hrl : (Dec.dc (P % y)).length ≤ (Dec.dc y).length := by
   rcases Nat.lt_or_ge (Dec.dc y).length (Dec.dc (P % y)).length with h1 | h1
   ·have := Dec.dc_len_lt h1
    omega
   ·exact h1
  have hcut := offcutref01_cut.ev ((Dec.Ds_dc (P % y)).cons hg)
  rw [Dec.dv, Dec.dv_dc, ← ht] at hcut
  have hex : (Dec.tx a).extract qs.length (qs.length + 1) = Dec.tx [g] := by
   rw [Dec.tx_extract]
   unfold Dec.tx
   congr 2
   rw [show qs.length + 1 - qs.length = 1 from by omega, List.take_one, List.head?_drop, List.getElem?_map, List.getElem?_reverse (by omega), show a.length - 1 - qs.length = d from by omega, List.getElem?_eq_getElem (by omega), hgd, List.getD_eq_getElem?_getD, List.getElem?_eq_getElem (by omega)]
   rfl
  refine Ev.step (f := fun k => (offcutref01_cut.f k (Dec.tx (g :: Dec.dc (P % y)))).bind fun t265 => (offcutref01_DivMod.l1 k (Dec.tx a) (Dec.dec y) (Dec.tx qs) t265 (qs.length : Int) ((0 : Nat) : Int))) (fun k => ?_) (Ev.bind hcut ?_)
  ·rw [offcutref01_DivMod.l0, Dec.w64s _ (by omega), Int.toNat_natCast, Int.toNat_natCast, hex, Dec.tx_size, if_pos (by omega), if_pos (by omega), if_pos (by omega), if_pos (by omega), if_pos (by unfold Dec.dec; rw [Dec.tx_size, Dec.tx_size, List.length_singleton]; omega)]
   show (offcutref01_cut.f k (Dec.tx (Dec.dc (P % y)) ++ Dec.tx [g])).bind _ = _
   rw [Dec.tx_append]
   rfl
  ·have hnext := ih (t / y :: qs) (by rw [List.length_cons]; omega) (hq.cons hn) (by rw [Dec.dv, hv, hq1])
   rw [hm1, List.length_cons] at hnext
   have := offcutref01_DivMod.ev_1 (x0 := Dec.tx a) hy (qs := qs) (by omega) (i := qs.length) (by omega) (Nat.mod_lt t (Nat.pos_of_ne_zero hy)) hn hnext (t / y) 0 (by omega) (by rw [hte]; omega)
   rw [hte] at this
   exact this
theorem offcutref01_DivMod.ev {x y : Nat} (lx : (Dec.dc x).length < 100000000) (hy : y ≠ 0) (ly : (Dec.dc y).length < 100000000) : Ev (fun k => offcutref01_DivMod.f k (Dec.dec x) (Dec.dec y)) (Dec.dec (x / y), Dec.dec (x % y)) := by
 have := offcutref01_DivMod.ev_0 (Dec.Ds_dc x) lx hy ly (Dec.dc x).length [] (by rw [List.length_nil]; omega) Dec.Ds.nil (by rw [List.drop_length]; exact (Nat.zero_div y).symm)
 rw [List.drop_length, Dec.dv_dc, Dec.dv, Nat.zero_mod, Dec.dec_zero] at this
 exact this
set_option synthInstance.checkSynthOrder false in
open Lin in
instance offcutref01_DivMod.t {k : Nat} {a0 : ByteArray} {a1 : ByteArray} {r : ByteArray × ByteArray} [h : Ans (offcutref01_DivMod.f k a0 a1) r] : Tl Try.prog 53 [.one (.val (.string a0)), .one (.val (.string a1))] (.tup [.one (.val (.string r.1)), .one (.val (.string r.2))]) := ⟨Tells.of Try.func53 fun out w vs ho hl hv => by
 obtain ⟨u0, u1, rfl, h0, h1⟩ := args2 hl hv
 obtain rfl := h0.1
 obtain rfl := h1.1
 refine (offcutref01_DivMod.calls k a0 a1 _ _ w h.out).mono ?_
 rintro e w' ⟨rfl, hb⟩
 exact ⟨_, rfl, tup2 (⟨rfl, rfl⟩) (⟨rfl, rfl⟩), below_of_drawn hb⟩⟩
def offcutref01_Gcd.l0 : Nat → ByteArray → ByteArray → Option (ByteArray)
 | 0, _, _ => none
 | k + 1, x0, x1 => if x1.toList = ([48] : List UInt8) then (some x0) else ((offcutref01_DivMod.f k x0 x1).bind fun bt609 => (offcutref01_Gcd.l0 k x1 bt609.2))
def offcutref01_Gcd.f (k : Nat) (a0 : ByteArray) (a1 : ByteArray) : Option (ByteArray) := offcutref01_Gcd.l0 k a0 a1
set_option maxHeartbeats 8000000 in
set_option maxRecDepth 100000 in
theorem offcutref01_Gcd.calls (k : Nat) (a0 : ByteArray) (a1 : ByteArray) (r : ByteArray) (w : World) (h : offcutref01_Gcd.f k a0 a1 = some r) :
  Calls Try.prog 63 #[.string a0, .string a1] w fun e w' => e = .returned (.string r) ∧ Drawn0 w w' := by
 have H : (offcutref01_Gcd.l0 k a0 a1) = some r := h
 clear h
 have H' := Aside0.mk H
 clear H
 go_enter Try.func63, Try.ntmps63
 go_wp2
 go_loopg [0, 1] k (fun kq v0 v1 w' => ∃ (x0_1 : ByteArray) (x1_1 : ByteArray), v0 = .string x0_1 ∧ v1 = .string x1_1 ∧ Aside0 (offcutref01_Gcd.l0 kq x0_1 x1_1 = some r) ∧ Aside0 (kq ≤ k) ∧ Drawn0 w w')
 case atStart => exact ⟨(a0), (a1), (by first | rfl | (simp; done) | (simp [*]; done)), (by first | rfl | (simp; done) | (simp [*]; done)), H', ⟨Nat.le_refl _⟩, by repeat (first | exact Drawn0.refl _ | apply Drawn0.step)⟩
 case round =>
  clear H'
  try clear p2
  obtain ⟨x0_1, x1_1, rfl, rfl, HA, HK1, ⟨m1, rfl⟩⟩ := hrel
  cases gk with
  | zero => exact absurd HA.out (by simp [offcutref01_Gcd.l0])
  | succ k1 =>
   have H := HA.out
   clear HA
   simp only [offcutref01_Gcd.l0] at H
   by_cases c3 : x1_1.toList = ([48] : List UInt8)
   ·rw [if_pos c3] at H
    have c3b0 : (x1_1.toList == ([48] : List UInt8)) = true := beq_iff_eq.mpr c3
    have c3b1 : (x1_1.toList != ([48] : List UInt8)) = false := bne_eq_false_iff_eq.mpr c3
    clear c3
    obtain rfl := Option.some.inj H
    go_wp2
    go_ret
    exact ⟨by first | rfl | (simp; done) | (simp [*]; done), by repeat (first | exact Drawn0.refl _ | apply Drawn0.step)⟩
   ·rw [if_neg c3] at H
    have c3b0 : (x1_1.toList == ([48] : List UInt8)) = false := beq_eq_false_iff_ne.mpr c3
    have c3b1 : (x1_1.toList != ([48] : List UInt8)) = true := bne_iff_ne.mpr c3
    replace H := Option.bind_eq_some_iff.mp H
    obtain ⟨⟨t609, t610⟩, A40, H⟩ := H
    replace H : (offcutref01_Gcd.l0 k1 x1_1 t610) = some r := H
    have A4 := Aside0.mk A40
    clear A40
    have H' := Aside0.mk H
    clear H
    go_wp2_with (first | ((with_reducible refine gate_callee (f := 53) rfl ?_); refine Short.goesS_ (some 12) Try.func53 #[.string x0_1, .string x1_1] ?_; (with_reducible refine (offcutref01_DivMod.calls k1 x0_1 x1_1 t609 t610 _ A4.out).mono ?_); rintro e w' ⟨rfl, ⟨nd, rfl⟩⟩; refine ⟨_, rfl, ?_⟩))
    go_roundg k1
    case measure => have := HK1.out; omega
    case rel => exact ⟨(x1_1), (t610), (by first | rfl | (simp; done) | (simp [*]; done)), (by first | rfl | (simp; done) | (simp [*]; done)), H', ⟨by have := HK1.out; omega⟩, by repeat (first | exact Drawn0.refl _ | apply Drawn0.step)⟩

theorem offcutref01_Gcd.ev {K : Nat} (hK : K < 1000000) (hK1 : 1 ≤ K) (b : Nat) : ∀ a : Nat, a < 2 ^ (32 * K) → b < 2 ^ (32 * K) → Ev (fun k => offcutref01_Gcd.f k (Dec.dec a) (Dec.dec b)) (Dec.dec (Nat.gcd a b)) := by
 induction b using Nat.strongRecOn with
 | ind b ih =>
  intro a ha hb
  by_cases h0 : b = 0
  ·subst h0
   rw [Nat.gcd_zero_right]
   refine Ev.step (f := fun _ => some (Dec.dec a)) (fun k => ?_) (Ev.now _)
   show offcutref01_Gcd.l0 (k + 1) _ _ = _
   rw [offcutref01_Gcd.l0, if_pos ((Dec.dec_is0 0).2 rfl)]
  ·have la := Dec.dc_len32 hK1 ha
   have lb := Dec.dc_len32 hK1 hb
   have hm := Nat.mod_lt a (Nat.pos_of_ne_zero h0)
   refine Ev.step (f := fun k => (offcutref01_DivMod.f k (Dec.dec a) (Dec.dec b)).bind fun bt300 => (offcutref01_Gcd.l0 k (Dec.dec b) bt300.2)) (fun k => ?_) (Ev.bind (offcutref01_DivMod.ev (by omega) h0 (by omega)) ?_)
   ·show offcutref01_Gcd.l0 (k + 1) _ _ = _
    rw [offcutref01_Gcd.l0, if_neg (fun e => h0 ((Dec.dec_is0 b).1 e))]
   ·have := ih (a % b) hm b hb (Nat.lt_trans hm hb)
    rw [Nat.gcd_comm b (a % b), ← Nat.gcd_rec, Nat.gcd_comm b a] at this
    exact this
set_option synthInstance.checkSynthOrder false in
open Lin in
instance offcutref01_Gcd.t {k : Nat} {a0 : ByteArray} {a1 : ByteArray} {r : ByteArray} [h : Ans (offcutref01_Gcd.f k a0 a1) r] : Tl Try.prog 63 [.one (.val (.string a0)), .one (.val (.string a1))] (.el (.one (.val (.string r)))) := ⟨Tells.of Try.func63 fun out w vs ho hl hv => by
 obtain ⟨u0, u1, rfl, h0, h1⟩ := args2 hl hv
 obtain rfl := h0.1
 obtain rfl := h1.1
 refine (offcutref01_Gcd.calls k a0 a1 _ w h.out).mono ?_
 rintro e w' ⟨rfl, hb⟩
 exact ⟨_, rfl, ⟨rfl, rfl⟩, below_of_drawn hb⟩⟩
def offcutref03_Low.j0 : Nat → ByteArray → ByteArray → ByteArray → Option (ByteArray × ByteArray)
 | 0, _, _, _ => none
 | k + 1, x0, x1, x5 => (offcutref01_Gcd.f k x5 x1).bind fun t613 => ((offcutref01_DivMod.f k x5 t613).bind fun bt614 => ((offcutref01_DivMod.f k x1 t613).bind fun bt616 => ((offcutref02_Below.f x0).bind fun t618 => ((offcutref02_Made.f t618 bt614.1).bind fun t619 => (some (t619, bt616.1))))))
def offcutref03_Low.f (k : Nat) (a0 : ByteArray) (a1 : ByteArray) : Option (ByteArray × ByteArray) := (offcutref02_Below.f a0).bind fun t612 => (if t612 = true then (if 1 ≤ (a0.size : Int) then (offcutref03_Low.j0 k a0 a1 (a0.extract 1 a0.size)) else (none)) else (offcutref03_Low.j0 k a0 a1 a0))
theorem offcutref03_Low.ev {p : Int} {q K : Nat} (hp : p.natAbs < 2 ^ (32 * K)) (hq : q < 2 ^ (32 * K)) (q0 : q ≠ 0) (hK1 : 1 ≤ K) (hK : K < 400000) : Ev (fun k => offcutref03_Low.f k (Zn.tz p) (Dec.dec q)) (Zn.tz (mkRat p q).num, Dec.dec (mkRat p q).den) := by
 obtain ⟨g, hg⟩ : ∃ g, g = Nat.gcd p.natAbs q := ⟨_, rfl⟩
 have G := offcutref01_Gcd.ev (K := K) (by omega) hK1 q p.natAbs hp hq
 rw [← hg] at G
 have g0 : g ≠ 0 := by
  have := Nat.gcd_pos_of_pos_right p.natAbs (Nat.pos_of_ne_zero q0)
  omega
 have bg : g < 2 ^ (32 * K) := Nat.lt_of_le_of_lt (Nat.le_of_dvd (Nat.pos_of_ne_zero q0) (by rw [hg]; exact Nat.gcd_dvd_right _ _)) hq
 have lp := Dec.dc_len32 hK1 hp
 have lq := Dec.dc_len32 hK1 hq
 have lg := Dec.dc_len32 hK1 bg
 have D1 := offcutref01_DivMod.ev (x := p.natAbs) (y := g) (by omega) g0 (by omega)
 have D2 := offcutref01_DivMod.ev (x := q) (y := g) (by omega) g0 (by omega)
 have ld := Dec.dc_len32 hK1 (Nat.lt_of_le_of_lt (Nat.div_le_self p.natAbs g) hp)
 have Md := offcutref02_Made.sem (decide (p < 0)) (p.natAbs / g) (by omega)
 have e1 := Qn.num_eq (decide (p < 0)) p.natAbs q q0
 have e2 := Qn.den_eq (decide (p < 0)) p.natAbs q q0
 rw [← hg, Zn.zv_self] at e1 e2
 rw [← e1] at Md
 rw [← e2] at D2
 have J : Ev (fun k => offcutref03_Low.j0 k (Zn.tz p) (Dec.dec q) (Dec.dec p.natAbs)) (Zn.tz (mkRat p q).num, Dec.dec (mkRat p q).den) := by
  refine Ev.step (f := fun k => (offcutref01_Gcd.f k (Dec.dec p.natAbs) (Dec.dec q)).bind fun t613 => (offcutref01_DivMod.f k (Dec.dec p.natAbs) t613).bind fun bt614 => (offcutref01_DivMod.f k (Dec.dec q) t613).bind fun bt616 => (offcutref02_Below.f (Zn.tz p)).bind fun t618 => (offcutref02_Made.f t618 bt614.1).bind fun t619 => some (t619, bt616.1)) (fun k => by rw [offcutref03_Low.j0]) ?_
  exact Ev.bind G (Ev.bind D1 (Ev.bind D2 (Dec.val (fun _ => offcutref02_Below.sem p) (Dec.val (fun _ => Md) (Ev.now _)))))
 unfold offcutref03_Low.f
 refine Dec.val (fun _ => offcutref02_Below.sem p) ?_
 by_cases h : p < 0
 ·have e : (Zn.tz p).extract 1 (Zn.tz p).size = Dec.dec p.natAbs := by rw [Zn.tz_neg h, Zn.minus_tail]
  have hs := Zn.tz_size_pos p
  rw [← e] at J
  exact Dec.yes (decide_eq_true h) (Dec.yes (by omega) J)
 ·have e : Zn.tz p = Dec.dec p.natAbs := Zn.tz_pos h
  rw [← e] at J
  exact Dec.no (by rw [decide_eq_false h]; decide) J
set_option synthInstance.checkSynthOrder false in
open Lin in
set_option maxHeartbeats 4000000 in
instance offcutref03_Low.t {k : Nat} {a0 : ByteArray} {a1 : ByteArray} {r : ByteArray × ByteArray} [h : Ans (offcutref03_Low.f k a0 a1) r] : Tl Try.prog 27 [.one (.val (.string a0)), .one (.val (.string a1))] (.el (.agg [.val (.string r.1), .val (.string r.2)])) := by
 have h := h.out
 unfold offcutref03_Low.f at h
 repeat' (first | (replace h := Lin.bndK h) | (replace h := Lin.bnd h; obtain ⟨_, _, h⟩ := h) | split at h | unfold offcutref03_Low.j0 at h | cases h)
 all_goals exact ⟨Tells.go Try.func27 Try.ntmps27⟩
mutual
def offcutref01_Mul.l0 : Nat → ByteArray → ByteArray → List Int → Int → Option (ByteArray)
 | 0, _, _, _, _ => none
 | k + 1, x0, x1, x5, x6 => if x6 < (x0.size : Int) then (offcutref01_Mul.l1 k x0 x1 x5 x6 0) else (offcutref01_Mul.l2 k x5 (⟨#[]⟩ : ByteArray) 0 0)
def offcutref01_Mul.l1 : Nat → ByteArray → ByteArray → List Int → Int → Int → Option (ByteArray)
 | 0, _, _, _, _, _ => none
 | k + 1, x0, x1, x5, x6, x7 => if x7 < (x1.size : Int) then (if 0 ≤ (wrap64 (x6 + x7)) then (if (wrap64 (x6 + x7)) < (x5.length : Int) then ((offcutref01_at.f x0 x6).bind fun t624 => ((offcutref01_at.f x1 x7).bind fun t625 => (offcutref01_Mul.l1 k x0 x1 (x5.set ((wrap64 (x6 + x7)) : Int).toNat (wrap64 ((rd x5 (wrap64 (x6 + x7))) + (wrap64 (t624 * t625))))) x6 (wrap64 (x7 + 1))))) else (none)) else (none)) else (offcutref01_Mul.l0 k x0 x1 x5 (wrap64 (x6 + 1)))
def offcutref01_Mul.l2 : Nat → List Int → ByteArray → Int → Int → Option (ByteArray)
 | 0, _, _, _, _ => none
 | k + 1, x5, x8, x9, x10 => if x10 < (x5.length : Int) then (if 0 ≤ x10 then ((offcutref01_sign.f (Int.tmod (wrap64 ((rd x5 x10) + x9)) 10)).bind fun t628 => (if t628.size + x8.size ≤ 9223372036854775807 then (offcutref01_Mul.l2 k x5 (t628 ++ x8) (wrap64 (Int.tdiv (wrap64 ((rd x5 x10) + x9)) 10)) (wrap64 (x10 + 1))) else (none))) else (none)) else ((offcutref01_cut.f k x8).bind fun t629 => (some t629))
end
def offcutref01_Mul.f (k : Nat) (a0 : ByteArray) (a1 : ByteArray) : Option (ByteArray) := if 0 ≤ (wrap64 ((wrap64 ((a0.size : Int) + (a1.size : Int))) + 1)) then (if (wrap64 ((wrap64 ((a0.size : Int) + (a1.size : Int))) + 1) : Int).toNat ≤ 35184372088832 then (offcutref01_Mul.l0 k a0 a1 (List.replicate (wrap64 ((wrap64 ((a0.size : Int) + (a1.size : Int))) + 1) : Int).toNat 0) 0) else (none)) else (none)
def offcutref01_Mul.T8 : Bool × List (List Nat × List Nat) := (true, [([], []), ([], []), ([], []), ([1, 2], [1, 2]), ([], []), ([], []), ([], []), ([5, 6], [5, 6]), ([4, 7], [4, 7]), ([8], [8]), ([], []), ([], []), ([10, 11], [10, 11]), ([], []), ([], []), ([13, 14, 12], [13, 14]), ([12, 15], [12, 15]), ([9, 16], [9, 16]), ([0, 3, 0, 1, 2, 3, 4, 5, 6, 7, 8, 9, 10, 11, 12, 13, 14, 15, 16, 17], [0, 3]), ([18, 17, 15, 0, 1, 2, 3, 4, 5, 6, 7, 8, 9, 10, 11, 12, 13, 14, 15, 16, 17], [17, 18])])
def offcutref01_Mul.B8 : List Nat := [0, 0, 0, 6, 0, 0, 0, 96, 240, 496, 0, 0, 3072, 0, 0, 31744, 64512, 131056, 262143, 524287]
theorem offcutref01_Mul.tab8 : rtab .any (opsOf Try.f51 8) = offcutref01_Mul.T8 := by kernel_rfl
theorem offcutref01_Mul.bits8 : waitsOk offcutref01_Mul.T8.2 offcutref01_Mul.B8 = true := by kernel_rfl
set_option maxHeartbeats 8000000 in
set_option maxRecDepth 100000 in
theorem offcutref01_Mul.calls (k : Nat) (a0 : ByteArray) (a1 : ByteArray) (r : ByteArray) (w : World) (h : offcutref01_Mul.f k a0 a1 = some r) :
  Calls Try.prog 51 #[.string a0, .string a1] w fun e w' => e = .returned (.string r) ∧ Below w.heap.size w w' := by
 have HB := Aside0.mk (Below.refl w.heap.size w)
 have H : (if 0 ≤ (wrap64 ((wrap64 ((a0.size : Int) + (a1.size : Int))) + 1)) then (if (wrap64 ((wrap64 ((a0.size : Int) + (a1.size : Int))) + 1) : Int).toNat ≤ 35184372088832 then (offcutref01_Mul.l0 k a0 a1 (List.replicate (wrap64 ((wrap64 ((a0.size : Int) + (a1.size : Int))) + 1) : Int).toNat 0) 0) else (none)) else (none)) = some r := h
 clear h
 obtain ⟨ji3, hji3⟩ : ∃ j_ : Int, (wrap64 ((wrap64 ((a0.size : Int) + (a1.size : Int))) + 1)) = j_ := ⟨_, rfl⟩
 replace H : (if 0 ≤ (ji3) then (if (ji3 : Int).toNat ≤ 35184372088832 then (offcutref01_Mul.l0 k a0 a1 (List.replicate (ji3 : Int).toNat 0) 0) else (none)) else (none)) = some r := by first | (rw [hji3] at H; exact H) | (simp only [hji3] at H ⊢; exact H)
 have hji3w : (IntKind.i64.wrap ((wrap64 ((a0.size : Int) + (a1.size : Int))) + 1)) = ji3 := (i64_w _).trans hji3
 by_cases c4 : 0 ≤ (ji3)
 ·rw [if_pos c4] at H
  have c4b0 := eq_true c4
  have c4b1 : decide (0 ≤ (ji3)) = true := decide_eq_true c4
  clear c4
  by_cases c5 : (ji3 : Int).toNat ≤ 35184372088832
  ·rw [if_pos c5] at H
   have c5b0 := eq_true c5
   have c5b1 : decide ((ji3 : Int).toNat ≤ 35184372088832) = true := decide_eq_true c5
   clear c5
   obtain ⟨y620, hy620⟩ : ∃ y_ : List Int, y_ = (List.replicate (ji3 : Int).toNat 0) := ⟨_, rfl⟩
   replace H : (offcutref01_Mul.l0 k a0 a1 y620 0) = some r := by first | (rw [hy620]; with_reducible exact H) | (have H2_ := (Option.bind_some _ _).symm.trans H; rw [hy620]; with_reducible exact H2_) | (have H2_ := (Option.bind_some _ _).symm.trans H; with_reducible exact H2_) | with_reducible exact H | (rw [hy620]; exact H) | exact H
   have Ny620 := Aside0.mk hy620
   clear hy620
   have H' := Aside0.mk H
   clear H
   go_enter Try.func51, Try.ntmps51
   go_wp2_with (first | ((with_reducible refine gate_dst (N := 18) rfl ?_); refine Kd.R_make (Kd.int .i64) _ 3 rfl (N := 18) rfl 101 _ _ rfl ji3 rfl rfl Try.underlying101 (.int .i64 0) 8 info3 rfl (by decide) (by omega) 0 (ok := fun _ => True) (okp := fun _ => True) rfl (fun _ hk => hk) trivial (of_decide_eq_true (by first | (with_reducible assumption) | assumption)) (Nat.le_trans (Nat.mul_le_mul_right _ (of_decide_eq_true (by first | (with_reducible assumption) | assumption) : ji3.toNat ≤ 35184372088832)) (by omega)) (Below.refl _ _) (Nat.le_refl _) ?_; intro v621 w6 ho7 hb hg_ hnew_; clear hg_ hnew_; (first | rw [← Ny620.out] at ho7 | (simp only [Int.reduceToNat] at ho7; rw [← Ny620.out] at ho7)); have HO622 := Aside0.mk (Kd.R_lower ho7 (below_size (by repeat (first | (with_reducible first | exact HB.out | apply below_alloc | apply pw_below_drewN | apply below_drew1) | exact HB.out)))); replace HB := Aside0.mk (below_step (by repeat (first | (with_reducible first | exact HB.out | apply below_alloc | apply pw_below_drewN | apply below_drew1) | exact HB.out)) hb); clear hb ho7))
   go_loopg [6] k (fun kq v6 w' => ∃ (x5_1 : List Int) (x6_1 : Int), v6 = .int .i64 x6_1 ∧ Aside0 (offcutref01_Mul.l0 kq a0 a1 x5_1 x6_1 = some r) ∧ Aside0 (kq ≤ k) ∧ Aside0 (Kd.R (Kd.int .i64) 3 w' w.heap.size (fun _ => True) v621 x5_1) ∧ Aside0 (Below w.heap.size w w'))
   case atStart => exact ⟨(y620), (0), (by first | rfl | (simp; done) | (simp [*]; done)), H', ⟨Nat.le_refl _⟩, ⟨by (with_reducible repeat (first | apply Kd.R_alloc | apply Kd.R_drewN | apply Kd.R_drew)); exact HO622.out⟩, ⟨by repeat (first | (with_reducible first | exact HB.out | apply below_alloc | apply pw_below_drewN | apply below_drew1) | exact HB.out)⟩⟩
   case round =>
    clear H'
    try clear p2
    try clear c4
    try clear c4b0
    try clear c4b1
    try clear c5
    try clear c5b0
    try clear c5b1
    try clear p6
    obtain ⟨x5_1, x6_1, rfl, HA, HK1, HO_5, HB⟩ := hrel
    cases gk with
    | zero => exact absurd HA.out (by simp [offcutref01_Mul.l0])
    | succ k1 =>
     have H := HA.out
     clear HA
     simp only [offcutref01_Mul.l0] at H
     by_cases c8 : x6_1 < (a0.size : Int)
     ·rw [if_pos c8] at H
      have c8b0 : decide (x6_1 < (a0.size : Int)) = true := decide_eq_true c8
      clear c8
      have H' := Aside0.mk H
      clear H
      go_wp2
      go_loopg [7] k1 (fun kq v7 w' => ∃ (x5_2 : List Int) (x7_2 : Int), v7 = .int .i64 x7_2 ∧ Aside0 (offcutref01_Mul.l1 kq a0 a1 x5_2 x6_1 x7_2 = some r) ∧ Aside0 (kq ≤ k1) ∧ Aside0 (Kd.R (Kd.int .i64) 3 w' w.heap.size (fun _ => True) v621 x5_2) ∧ Aside0 (Below w.heap.size w w'))
      case atStart => exact ⟨(x5_1), (0), (by first | rfl | (simp; done) | (simp [*]; done)), H', ⟨Nat.le_refl _⟩, ⟨by (with_reducible repeat (first | apply Kd.R_alloc | apply Kd.R_drewN | apply Kd.R_drew)); exact HO_5.out⟩, ⟨by repeat (first | (with_reducible first | exact HB.out | apply below_alloc | apply pw_below_drewN | apply below_drew1) | exact HB.out)⟩⟩
      case round =>
       clear H'
       try clear p2
       try clear c4
       try clear c4b0
       try clear c4b1
       try clear c5
       try clear c5b0
       try clear c5b1
       try clear p6
       try clear c8
       try clear c8b0
       try clear p2
       try clear p6
       obtain ⟨x5_2, x7_2, rfl, HA, HK2, HO_5, HB⟩ := hrel
       cases gk with
       | zero => exact absurd HA.out (by simp [offcutref01_Mul.l1])
       | succ k2 =>
        have H := HA.out
        clear HA
        simp only [offcutref01_Mul.l1] at H
        by_cases c9 : x7_2 < (a1.size : Int)
        ·rw [if_pos c9] at H
         have c9b0 : decide (x7_2 < (a1.size : Int)) = true := decide_eq_true c9
         clear c9
         obtain ⟨ji10, hji10⟩ : ∃ j_ : Int, (wrap64 (x6_1 + x7_2)) = j_ := ⟨_, rfl⟩
         replace H : (if 0 ≤ (ji10) then (if (ji10) < (x5_2.length : Int) then ((offcutref01_at.f a0 x6_1).bind fun t624 => ((offcutref01_at.f a1 x7_2).bind fun t625 => (offcutref01_Mul.l1 k2 a0 a1 (x5_2.set ((ji10) : Int).toNat (wrap64 ((rd x5_2 (ji10)) + (wrap64 (t624 * t625))))) x6_1 (wrap64 (x7_2 + 1))))) else (none)) else (none)) = some r := by first | (rw [hji10] at H; exact H) | (simp only [hji10] at H ⊢; exact H)
         have hji10w : (IntKind.i64.wrap (x6_1 + x7_2)) = ji10 := (i64_w _).trans hji10
         by_cases c11 : 0 ≤ (ji10)
         ·rw [if_pos c11] at H
          have c11b0 : decide (0 ≤ (ji10)) = true := decide_eq_true c11
          clear c11
          by_cases c12 : (ji10) < (x5_2.length : Int)
          ·rw [if_pos c12] at H
           have c12b0 : decide ((ji10) < (x5_2.length : Int)) = true := decide_eq_true c12
           clear c12
           replace H := Option.bind_eq_some_iff.mp H
           obtain ⟨t624, A130, H⟩ := H
           try dsimp only at H
           have A13 := Aside0.mk A130
           clear A130
           replace H := Option.bind_eq_some_iff.mp H
           obtain ⟨t625, A140, H⟩ := H
           try dsimp only at H
           have A14 := Aside0.mk A140
           clear A140
           obtain ⟨y626, hy626⟩ : ∃ y_ : List Int, y_ = (x5_2.set ((ji10) : Int).toNat (wrap64 ((rd x5_2 (ji10)) + (wrap64 (t624 * t625))))) := ⟨_, rfl⟩
           replace H : (offcutref01_Mul.l1 k2 a0 a1 y626 x6_1 (wrap64 (x7_2 + 1))) = some r := by first | (rw [hy626]; with_reducible exact H) | (have H2_ := (Option.bind_some _ _).symm.trans H; rw [hy626]; with_reducible exact H2_) | (have H2_ := (Option.bind_some _ _).symm.trans H; with_reducible exact H2_) | with_reducible exact H | (rw [hy626]; exact H) | exact H
           have Ny626 := Aside0.mk hy626
           clear hy626
           have H' := Aside0.mk H
           clear H
           try go_wp2
           replace HO_5 := Aside0.mk (Kd.R_drew HO_5.out)
           replace HB := Aside0.mk (below_drew1 HB.out)
           obtain ⟨Ao17, co17, eo17⟩ := Kd.R_slice HO_5.out
           (first | subst eo17 | (injection eo17 with f1_ f2_ f3_; have f4_ := f1_.symm; have f5_ := f3_.symm; clear f1_ f2_ f3_; subst f4_; subst f5_))
           have p623 : 0 ≤ ((ji10) : Int) := of_decide_eq_true (by first | (with_reducible assumption) | assumption)
           have q623 : (ji10) < (x5_2.length : Int) := of_decide_eq_true (by first | (with_reducible assumption) | assumption)
           obtain ⟨ad623, e623, hx623_0⟩ := Kd.at_int (Kd.R_reads' HO_5.out).2.2 (ji10) p623 q623
           cases e623
           replace p623 := eq_true p623
           replace q623 := eq_true q623
           refine start_ (n := 20) (S := fun w' => w'.cell? (ad623.add ((ji10)).toNat) = some (.int .i64 (rd x5_2 (ji10)))) (ds := [19]) #[false, false, false, false, false, false, false, false, false, false, false, false, false, false, false, false, false, false, false, false] (by kernel_rfl) rfl rfl (hx623_0) (fun hHeld => ?_); refine with_tabW offcutref01_Mul.tab8 offcutref01_Mul.bits8 (fun HT_ HW_ => ?_)
           generalize wr.drew = w16 at HO_5 HB hx623_0 hHeld ⊢
           refine Short.pureS_ (i := 0) (N := some 31) #[true, false, false, false, false, false, false, false, false, false, false, false, false, false, false, false, false, false, false, false] (any_of HT_.out (by kernel_rfl)) ?_
           refine Short.pureS_ (i := 1) (N := some 32) #[true, true, false, false, false, false, false, false, false, false, false, false, false, false, false, false, false, false, false, false] (any_of HT_.out (by kernel_rfl)) ?_
           refine Short.pureS_ (i := 2) (N := some 33) #[true, true, true, false, false, false, false, false, false, false, false, false, false, false, false, false, false, false, false, false] (any_of HT_.out (by kernel_rfl)) ?_
           refine Short.pureS_ (i := 3) (N := some 34) #[true, true, true, true, false, false, false, false, false, false, false, false, false, false, false, false, false, false, false, false] (any_of HT_.out (by kernel_rfl)) ?_
           refine Short.pureS_ (i := 4) (N := some 35) #[true, true, true, true, true, false, false, false, false, false, false, false, false, false, false, false, false, false, false, false] (any_of HT_.out (by kernel_rfl)) ?_
           refine Short.pureS_ (i := 5) (N := some 36) #[true, true, true, true, true, true, false, false, false, false, false, false, false, false, false, false, false, false, false, false] (any_of HT_.out (by kernel_rfl)) ?_
           refine Short.pureS_ (i := 6) (N := some 37) #[true, true, true, true, true, true, true, false, false, false, false, false, false, false, false, false, false, false, false, false] (any_of HT_.out (by kernel_rfl)) ?_
           refine Short.pureS_ (i := 7) (N := some 38) #[true, true, true, true, true, true, true, true, false, false, false, false, false, false, false, false, false, false, false, false] (any_of HT_.out (by kernel_rfl)) ?_
           refine Short.pureS_ (i := 8) (N := some 39) #[true, true, true, true, true, true, true, true, true, false, false, false, false, false, false, false, false, false, false, false] (any_of HT_.out (by kernel_rfl)) ?_
           refine Short.pureS_ (i := 10) (N := some 41) #[true, true, true, true, true, true, true, true, true, false, true, false, false, false, false, false, false, false, false, false] (any_of HT_.out (by kernel_rfl)) ?_
           refine Short.pureS_ (i := 11) (N := some 42) #[true, true, true, true, true, true, true, true, true, false, true, true, false, false, false, false, false, false, false, false] (any_of HT_.out (by kernel_rfl)) ?_
           refine Short.pureS_ (i := 13) (N := some 44) #[true, true, true, true, true, true, true, true, true, false, true, true, false, true, false, false, false, false, false, false] (any_of HT_.out (by kernel_rfl)) ?_
           refine Short.pureS_ (i := 14) (N := some 45) #[true, true, true, true, true, true, true, true, true, false, true, true, false, true, true, false, false, false, false, false] (any_of HT_.out (by kernel_rfl)) ?_
           refine take_ (i := 9) (N := some 40) (v := ?_) (a' := ?_) #[true, true, true, true, true, true, true, true, true, true, true, true, false, true, true, false, false, false, false, false] rfl rfl (take_ofW HT_.out HW_.out (by kernel_rfl)) (fun _ _ _ h => h) (Or.inl ⟨by rfl, ?_⟩) hHeld ?_ ?_
           rotate_left
           ·intro w' s0
            go_simp
            with_reducible rfl
           rotate_left
           ·simp only [Act.put, List.setIfInBounds_toArray, List.set_cons_zero, List.set_cons_succ, i64_w, i32_w]
            rfl
           refine one_ (i := 12) (N := some 43) #[true, true, true, true, true, true, true, true, true, true, true, true, true, true, true, false, false, false, false, false] rfl rfl (one_of HT_.out (by kernel_rfl)) (by decide) (fun K hK => ?_)
           refine Short.goesD_ Try.func82 #[.string a0, .int .i64 x6_1] ?_
           with_reducible refine (offcutref01_at.calls a0 x6_1 t624 _ A13.out).mono ?_
           rintro e w' ⟨rfl, ⟨nd, rfl⟩⟩
           refine ⟨_, rfl, ?_⟩
           refine hK.out _ _ (hHeld) (fun hHeld => ?_)
           clear hK K
           refine Short.normS_ ?_
           refine one_ (i := 15) (N := some 46) #[true, true, true, true, true, true, true, true, true, true, true, true, true, true, true, true, false, false, false, false] rfl rfl (one_of HT_.out (by kernel_rfl)) (by decide) (fun K hK => ?_)
           refine Short.goesD_ Try.func82 #[.string a1, .int .i64 x7_2] ?_
           with_reducible refine (offcutref01_at.calls a1 x7_2 t625 _ A14.out).mono ?_
           rintro e w' ⟨rfl, ⟨nd, rfl⟩⟩
           refine ⟨_, rfl, ?_⟩
           have p15 : 0 ≤ ((ji10) : Int) := of_decide_eq_true (by first | (with_reducible assumption) | assumption)
           have q15 : ((ji10) : Int) < ((x5_2.length : Int) : Int) := of_decide_eq_true (by first | (with_reducible assumption) | assumption)
           obtain ⟨go15, co15, eo15, gb15, gl15, cl15, HG15⟩ := Kd.R_form HO_5.out (by omega)
           (first | cases eo15 | (injection eo15 with ea_ en_ ec_; (first | subst ea_ | (injection ea_ with ea_; subst ea_)); subst ec_; clear en_))
           have GB15 := Aside0.mk gb15
           have GG15 := Aside0.mk HG15
           clear gb15 gl15 HG15
           (first | simp only [add_plain] at hx623_0 | skip)
           obtain ⟨hx15_0, hf15_0⟩ := Kd.R_celln 0 HO_5.out ((ji10) : Int) p15 q15
           replace p15 := eq_true p15
           replace q15 := eq_true q15
           have HP18 := Kd.R_putn HO_5.out ((ji10) : Int) (wrap64 ((rd x5_2 (ji10)) + (wrap64 (t624 * t625))))
           rw [← Ny626.out] at HP18
           have HQ18 := Aside0.mk HP18
           clear HP18
           refine hK.out _ _ (hHeld) (fun hHeld => ?_)
           clear hK K
           refine Short.normS_ ?_
           refine Short.pureS_ (i := 16) (N := some 47) #[true, true, true, true, true, true, true, true, true, true, true, true, true, true, true, true, true, false, false, false] (any_of HT_.out (by kernel_rfl)) ?_
           refine Short.pureS_ (i := 17) (N := some 48) #[true, true, true, true, true, true, true, true, true, true, true, true, true, true, true, true, true, true, false, false] (any_of HT_.out (by kernel_rfl)) ?_
           refine Short.pureS_ (i := 18) (N := some 49) #[true, true, true, true, true, true, true, true, true, true, true, true, true, true, true, true, true, true, true, false] (any_of HT_.out (by kernel_rfl)) ?_
           refine last_ (i := 19) (N := none) #[true, true, true, true, true, true, true, true, true, true, true, true, true, true, true, true, true, true, true, true] rfl rfl (one_of HT_.out (by kernel_rfl)) (by decide) (fun K hK => ?_)
           refine skip_ (w1 := ?_) (by rfl) rfl ?_ ?_
           rotate_left
           ·go_simp
            rfl
           refine hK.out _ _ ?_
           clear hK K
           refine done_ (done_of HT_.out (by kernel_rfl)) ?_
           try go_wp2
           go_roundg k2
           case measure => have := HK1.out; have := HK2.out; omega
           case rel => exact ⟨(y626), (wrap64 (x7_2 + 1)), (by first | rfl | (simp; done) | (simp [*]; done)), H', ⟨by have := HK1.out; have := HK2.out; omega⟩, ⟨by (with_reducible repeat (first | apply Kd.R_alloc | apply Kd.R_drewN | apply Kd.R_drew)); exact HQ18.out⟩, ⟨by repeat (first | (with_reducible first | exact HB.out | apply below_alloc | apply pw_below_drewN | apply below_drew1 | refine below_set ?_ GB15.out) | exact HB.out)⟩⟩
          ·rw [if_neg c12] at H
           exact absurd H (by simp)
         ·rw [if_neg c11] at H
          exact absurd H (by simp)
        ·rw [if_neg c9] at H
         have c9b0 : decide (x7_2 < (a1.size : Int)) = false := decide_eq_false c9
         clear c9
         have H' := Aside0.mk H
         clear H
         go_wp2
         go_roundg k2
         case measure => have := HK1.out; have := HK2.out; omega
         case rel => exact ⟨(x5_2), (wrap64 (x6_1 + 1)), (by first | rfl | (simp; done) | (simp [*]; done)), H', ⟨by have := HK1.out; have := HK2.out; omega⟩, ⟨by (with_reducible repeat (first | apply Kd.R_alloc | apply Kd.R_drewN | apply Kd.R_drew)); exact HO_5.out⟩, ⟨by repeat (first | (with_reducible first | exact HB.out | apply below_alloc | apply pw_below_drewN | apply below_drew1) | exact HB.out)⟩⟩
     ·rw [if_neg c8] at H
      have c8b0 : decide (x6_1 < (a0.size : Int)) = false := decide_eq_false c8
      clear c8
      have H' := Aside0.mk H
      clear H
      go_wp2
      go_loopg [8, 9, 10] k1 (fun kq v8 v9 v10 w' => ∃ (x8_2 : ByteArray) (x9_2 : Int) (x10_2 : Int), v8 = .string x8_2 ∧ v9 = .int .i64 x9_2 ∧ v10 = .int .i64 x10_2 ∧ Aside0 (offcutref01_Mul.l2 kq x5_1 x8_2 x9_2 x10_2 = some r) ∧ Aside0 (kq ≤ k1) ∧ Aside0 (Kd.R (Kd.int .i64) 3 w' w.heap.size (fun _ => True) v621 x5_1) ∧ Aside0 (Below w.heap.size w w'))
      case atStart => exact ⟨((⟨#[]⟩ : ByteArray)), (0), (0), (by first | rfl | (simp; done) | (simp [*]; done)), (by first | rfl | (simp; done) | (simp [*]; done)), (by first | rfl | (simp; done) | (simp [*]; done)), H', ⟨Nat.le_refl _⟩, ⟨by (with_reducible repeat (first | apply Kd.R_alloc | apply Kd.R_drewN | apply Kd.R_drew)); exact HO_5.out⟩, ⟨by repeat (first | (with_reducible first | exact HB.out | apply below_alloc | apply pw_below_drewN | apply below_drew1) | exact HB.out)⟩⟩
      case round =>
       clear H'
       try clear c1
       try clear p1
       try clear q1
       try clear hx1
       try clear p2
       try clear c4
       try clear c4b0
       try clear c4b1
       try clear c5
       try clear c5b0
       try clear c5b1
       try clear p6
       try clear q6
       try clear hx6
       try clear c8
       try clear c8b0
       try clear c9
       try clear c9b0
       try clear c11
       try clear c11b0
       try clear c12
       try clear c12b0
       try clear p15
       try clear q15
       try clear hx15
       try clear hf15
       try clear hx15_0
       try clear hx623_0
       try clear p15
       try clear p2
       try clear p6
       try clear p623
       try clear q15
       try clear q623
       obtain ⟨x8_2, x9_2, x10_2, rfl, rfl, rfl, HA, HK2, HO_5, HB⟩ := hrel
       cases gk with
       | zero => exact absurd HA.out (by simp [offcutref01_Mul.l2])
       | succ k2 =>
        have H := HA.out
        clear HA
        simp only [offcutref01_Mul.l2] at H
        by_cases c19 : x10_2 < (x5_1.length : Int)
        ·rw [if_pos c19] at H
         have c19b0 : decide (x10_2 < (x5_1.length : Int)) = true := decide_eq_true c19
         clear c19
         by_cases c20 : 0 ≤ x10_2
         ·rw [if_pos c20] at H
          have c20b0 : decide (0 ≤ x10_2) = true := decide_eq_true c20
          clear c20
          replace H := Option.bind_eq_some_iff.mp H
          obtain ⟨t628, A210, H⟩ := H
          try dsimp only at H
          have A21 := Aside0.mk A210
          clear A210
          by_cases c22 : t628.size + x8_2.size ≤ 9223372036854775807
          ·rw [if_pos c22] at H
           have c22b0 := eq_true c22
           have c22b1 : decide (t628.size + x8_2.size ≤ 9223372036854775807) = true := decide_eq_true c22
           try have c22b2 : (9223372036854775807 < t628.size + x8_2.size) = False := eq_false (Nat.not_lt.2 c22)
           have H' := Aside0.mk H
           clear H
           obtain ⟨Ao23, co23, eo23⟩ := Kd.R_slice HO_5.out
           subst eo23
           have p627 : 0 ≤ (x10_2 : Int) := of_decide_eq_true (by first | (with_reducible assumption) | assumption)
           have q627 : x10_2 < (x5_1.length : Int) := of_decide_eq_true (by first | (with_reducible assumption) | assumption)
           obtain ⟨ad627, e627, hx627_0⟩ := Kd.at_int (Kd.R_reads' HO_5.out).2.2 x10_2 p627 q627
           cases e627
           replace p627 := eq_true p627
           replace q627 := eq_true q627
           go_wp2_with (first | ((with_reducible refine gate_callee (f := 80) rfl ?_); refine Short.goesS_ (some 64) Try.func80 #[.int .i64 (Int.tmod (wrap64 ((rd x5_1 x10_2) + x9_2)) 10)] ?_; (with_reducible refine (offcutref01_sign.calls (Int.tmod (wrap64 ((rd x5_1 x10_2) + x9_2)) 10) t628 _ A21.out).mono ?_); rintro e w' ⟨rfl, ⟨nd, rfl⟩⟩; refine ⟨_, rfl, ?_⟩))
           go_roundg k2
           case measure => have := HK1.out; have := HK2.out; omega
           case rel => exact ⟨(t628 ++ x8_2), (wrap64 (Int.tdiv (wrap64 ((rd x5_1 x10_2) + x9_2)) 10)), (wrap64 (x10_2 + 1)), (by first | rfl | (simp; done) | (simp [*]; done)), (by first | rfl | (simp; done) | (simp [*]; done)), (by first | rfl | (simp; done) | (simp [*]; done)), H', ⟨by have := HK1.out; have := HK2.out; omega⟩, ⟨by (with_reducible repeat (first | apply Kd.R_alloc | apply Kd.R_drewN | apply Kd.R_drew)); exact HO_5.out⟩, ⟨by repeat (first | (with_reducible first | exact HB.out | apply below_alloc | apply pw_below_drewN | apply below_drew1) | exact HB.out)⟩⟩
          ·rw [if_neg c22] at H
           exact absurd H (by simp)
         ·rw [if_neg c20] at H
          exact absurd H (by simp)
        ·rw [if_neg c19] at H
         have c19b0 : decide (x10_2 < (x5_1.length : Int)) = false := decide_eq_false c19
         clear c19
         replace H := Option.bind_eq_some_iff.mp H
         obtain ⟨t629, A240, H⟩ := H
         replace H : (some t629) = some r := H
         have A24 := Aside0.mk A240
         clear A240
         obtain rfl := Option.some.inj H
         obtain ⟨Ao25, co25, eo25⟩ := Kd.R_slice HO_5.out
         subst eo25
         go_wp2_with (first | ((with_reducible refine gate_callee (f := 81) rfl ?_); refine Short.goesS_ (some 70) Try.func81 #[.string x8_2] ?_; (with_reducible refine (offcutref01_cut.calls k2 x8_2 t629 _ A24.out).mono ?_); rintro e w' ⟨rfl, ⟨nd, rfl⟩⟩; refine ⟨_, rfl, ?_⟩))
         go_ret
         exact ⟨by first | rfl | (simp [errW_none, errW_some] <;> rfl) | (simp only [← hji3]; first | rfl | (simp [errW_none, errW_some] <;> rfl)) | (simp [*, errW_none, errW_some] <;> rfl), by repeat (first | (with_reducible first | exact HB.out | apply below_alloc | apply pw_below_drewN | apply below_drew1) | exact HB.out)⟩
  ·rw [if_neg c5] at H
   exact absurd H (by simp)
 ·rw [if_neg c4] at H
  exact absurd H (by simp)

/-- What is carried out of the places. -/
theorem offcutref01_Mul.ev_c {s : List Nat} {V : Nat} (hs : ∀ j, s.getD j 0 ≤ 81000000000) (hl : s.length < 3000000000) (hV : Dec.dv s = V) (hVl : V < 10 ^ s.length) (d : Nat) : ∀ (out : List Nat) (c : Nat), out.length + d = s.length → Dec.Ds out → c ≤ 81000000000 →
  Dec.dv (s.take out.length) = Dec.dv out + 10 ^ out.length * c → Ev (fun k => offcutref01_Mul.l2 k (Dec.ints s) (Dec.tx out) (c : Int) (out.length : Int)) (Dec.dec V) := by
 induction d with
 | zero =>
  intro out c hd ho hc hv
  rw [List.take_of_length_le (by omega), hV, show out.length = s.length from by omega] at hv
  have hc0 : c = 0 := by
   rcases Nat.eq_zero_or_pos c with h | h
   ·exact h
   ·have := Nat.mul_le_mul_left (10 ^ s.length) h
    omega
  have hvv : Dec.dv out = V := by rw [hc0] at hv; omega
  refine Ev.step (f := fun k => (offcutref01_cut.f k (Dec.tx out)).bind fun t => some t) (fun k => ?_) ?_
  ·rw [offcutref01_Mul.l2, if_neg (by rw [Dec.ints_length]; omega)]
  ·rw [← hvv]
   exact Ev.bind (offcutref01_cut.ev ho) (Ev.now _)
 | succ d ih =>
  intro out c hd ho hc hv
  have h1 := hs out.length
  obtain ⟨p, hp⟩ : ∃ p, p = s.getD out.length 0 := ⟨_, rfl⟩
  rw [← hp] at h1
  refine Ev.step (f := fun k => offcutref01_Mul.l2 k (Dec.ints s) (Dec.tx (out ++ [(p + c) % 10])) (((p + c) / 10 : Nat) : Int) ((out.length + 1 : Nat) : Int)) (fun k => ?_) ?_
  ·rw [offcutref01_Mul.l2, if_pos (by rw [Dec.ints_length]; omega), if_pos (by omega), Dec.rd_ints, ← hp, Dec.w64a _ _ (by omega), Dec.tmod10, Dec.tdiv10, offcutref01_sign.sem _ (Nat.mod_lt _ (by omega)), Option.bind_some, Dec.tx_append, Dec.tx_size, Dec.tx_size, if_pos (by rw [List.length_singleton]; omega), Dec.w64n _ (by omega), Dec.w64s _ (by omega)]
  ·have := ih (out ++ [(p + c) % 10]) ((p + c) / 10) (by rw [List.length_append, List.length_singleton]; omega) (ho.snoc (Nat.mod_lt _ (by omega))) (by omega) (by
    rw [List.length_append, List.length_singleton, Dec.dv_take_succ, ← hp, Dec.dv_snoc, Nat.pow_succ]
    have h3 : 10 ^ out.length * (p + c) = 10 ^ out.length * ((p + c) % 10 + 10 * ((p + c) / 10)) := by congr 1; omega
    rw [Nat.mul_add, Nat.mul_add, ← Nat.mul_assoc] at h3
    omega)
   rw [List.length_append, List.length_singleton] at this
   exact this
/-- One row of the product; then what follows (K). -/
theorem offcutref01_Mul.ev_r {a b : List Nat} (ha : Dec.Ds a) (hb : Dec.Ds b) (la : a.length < 1000000000) (lb : b.length < 1000000000) {r : ByteArray} {i : Nat} (hi : i < a.length) (M : Nat)
  (next : ∀ s : List Nat, s.length = a.length + b.length + 1 → (∀ j, s.getD j 0 ≤ 81 * (i + 1)) → Dec.dv s = M + 10 ^ i * (a.getD i 0 * Dec.dv b) → Ev (fun k => offcutref01_Mul.l0 k (Dec.tx a) (Dec.tx b) (Dec.ints s) ((i + 1 : Nat) : Int)) r) (d : Nat) : ∀ (s : List Nat) (q : Nat), q + d = b.length → s.length = a.length + b.length + 1 → (∀ j, s.getD j 0 ≤ 81 * (i + 1)) → (∀ j, i + q ≤ j → s.getD j 0 ≤ 81 * i) →
  Dec.dv s = M + 10 ^ i * (a.getD i 0 * Dec.dv (b.take q)) → Ev (fun k => offcutref01_Mul.l1 k (Dec.tx a) (Dec.tx b) (Dec.ints s) (i : Int) (q : Int)) r := by
 induction d with
 | zero =>
  intro s q hd hl h1 h2 hv
  refine Ev.step (f := fun k => offcutref01_Mul.l0 k (Dec.tx a) (Dec.tx b) (Dec.ints s) ((i + 1 : Nat) : Int)) (fun k => ?_) (next s hl h1 ?_)
  ·rw [offcutref01_Mul.l1, Dec.tx_size, if_neg (by omega), Dec.w64s _ (by omega)]
  ·rw [List.take_of_length_le (by omega)] at hv
   exact hv
 | succ d ih =>
  intro s q hd hl h1 h2 hv
  have g1 := ha.getD i
  have g2 := hb.getD q
  obtain ⟨x, hx⟩ : ∃ x, x = a.getD i 0 := ⟨_, rfl⟩
  obtain ⟨y, hy⟩ : ∃ y, y = b.getD q 0 := ⟨_, rfl⟩
  rw [← hx] at g1
  rw [← hy] at g2
  have hxy : x * y ≤ 81 := Nat.mul_le_mul (show x ≤ 9 from by omega) (show y ≤ 9 from by omega)
  have hp := h2 (i + q) (Nat.le_refl _)
  refine Ev.step (f := fun k => offcutref01_Mul.l1 k (Dec.tx a) (Dec.tx b) (Dec.ints (s.set (i + q) (s.getD (i + q) 0 + x * y))) (i : Int) ((q + 1 : Nat) : Int)) (fun k => ?_) ?_
  ·rw [offcutref01_Mul.l1, Dec.tx_size, if_pos (by omega), Dec.w64a _ _ (by omega), if_pos (by omega), if_pos (by rw [Dec.ints_length]; omega), offcutref01_at.sem ha (by omega), offcutref01_at.sem hb (by omega), Option.bind_some, Option.bind_some, ← hx, ← hy, Dec.rd_ints, Int.toNat_natCast, Dec.w64m _ _ (by omega), Dec.w64a _ _ (by omega), Dec.ints_set, Dec.w64s _ (by omega)]
  ·refine ih _ (q + 1) (by omega) (by rw [List.length_set]; exact hl) (fun j => ?_) (fun j hj => ?_) ?_
   ·rw [Dec.getD_set]
    split
    ·omega
    ·exact h1 j
   ·rw [Dec.getD_set, if_neg (by omega)]
    exact h2 j (by omega)
   ·rw [Dec.dv_set _ _ (by omega), hv, Dec.dv_take_succ, ← hx, ← hy, Nat.mul_add, Nat.mul_add, Nat.pow_add]
    have : 10 ^ i * (x * (10 ^ q * y)) = 10 ^ i * 10 ^ q * (x * y) := by rw [Nat.mul_left_comm x, Nat.mul_assoc]
    omega
theorem offcutref01_Mul.ev_l {a b : List Nat} (ha : Dec.Ds a) (hb : Dec.Ds b) (la : a.length < 1000000000) (lb : b.length < 1000000000) (d : Nat) : ∀ (s : List Nat) (i : Nat), i + d = a.length → s.length = a.length + b.length + 1 → (∀ j, s.getD j 0 ≤ 81 * i) → Dec.dv s = Dec.dv (a.take i) * Dec.dv b →
  Ev (fun k => offcutref01_Mul.l0 k (Dec.tx a) (Dec.tx b) (Dec.ints s) (i : Int)) (Dec.dec (Dec.dv a * Dec.dv b)) := by
 induction d with
 | zero =>
  intro s i hd hl h1 hv
  refine Ev.step (f := fun k => offcutref01_Mul.l2 k (Dec.ints s) (Dec.tx []) ((0 : Nat) : Int) ((([] : List Nat).length : Nat) : Int)) (fun k => ?_) ?_
  ·rw [offcutref01_Mul.l0, Dec.tx_size, if_neg (by omega)]
   rfl
  ·rw [List.take_of_length_le (by omega)] at hv
   refine offcutref01_Mul.ev_c (fun j => Nat.le_trans (h1 j) (by omega)) (by omega) hv ?_ s.length [] 0 (by rw [List.length_nil]; omega) Dec.Ds.nil (by omega) (by rw [List.length_nil, List.take_zero]; rfl)
   rw [hl, Nat.pow_succ, Nat.pow_add]
   have h2 := Nat.mul_le_mul (Nat.le_of_lt (Dec.dv_lt ha)) (Nat.le_of_lt (Dec.dv_lt hb))
   have h3 : 0 < 10 ^ a.length * 10 ^ b.length := Nat.mul_pos (Nat.pow_pos (by omega)) (Nat.pow_pos (by omega))
   omega
 | succ d ih =>
  intro s i hd hl h1 hv
  refine Ev.step (f := fun k => offcutref01_Mul.l1 k (Dec.tx a) (Dec.tx b) (Dec.ints s) (i : Int) ((0 : Nat) : Int)) (fun k => ?_) ?_
  ·rw [offcutref01_Mul.l0, Dec.tx_size, if_pos (by omega)]
   rfl
  ·refine offcutref01_Mul.ev_r ha hb la lb (by omega) (Dec.dv s) (fun s' hl' h1' hv' => ?_) b.length s 0 (by omega) hl (fun j => Nat.le_trans (h1 j) (by omega)) (fun j _ => h1 j) (by rw [List.take_zero, Dec.dv]; omega)
   refine ih s' (i + 1) (by omega) hl' h1' ?_
   rw [hv', hv, Dec.dv_take_succ, Nat.add_mul, Nat.mul_assoc]
theorem offcutref01_Mul.ev {a b : List Nat} (ha : Dec.Ds a) (hb : Dec.Ds b) (la : a.length < 1000000000) (lb : b.length < 1000000000) : Ev (fun k => offcutref01_Mul.f k (Dec.tx a) (Dec.tx b)) (Dec.dec (Dec.dv a * Dec.dv b)) := by
 have := offcutref01_Mul.ev_l ha hb la lb a.length (List.replicate (a.length + b.length + 1) 0) 0 (by omega) (List.length_replicate) (fun j => by rw [List.getD_eq_getElem?_getD, List.getElem?_replicate]; split <;> simp) (by rw [Dec.dv_zeros, List.take_zero, Dec.dv, Nat.zero_mul])
 refine Ev.congr (fun k => ?_) this
 unfold offcutref01_Mul.f
 rw [Dec.tx_size, Dec.tx_size, Dec.w64a _ _ (by omega), Dec.w64s _ (by omega), if_pos (by omega), Int.toNat_natCast, if_pos (by omega), Dec.ints_zeros]
 rfl
set_option synthInstance.checkSynthOrder false in
open Lin in
instance offcutref01_Mul.t {k : Nat} {a0 : ByteArray} {a1 : ByteArray} {r : ByteArray} [h : Ans (offcutref01_Mul.f k a0 a1) r] : Tl Try.prog 51 [.one (.val (.string a0)), .one (.val (.string a1))] (.el (.one (.val (.string r)))) := ⟨Tells.of Try.func51 fun out w vs ho hl hv => by
 obtain ⟨u0, u1, rfl, h0, h1⟩ := args2 hl hv
 obtain rfl := h0.1
 obtain rfl := h1.1
 refine (offcutref01_Mul.calls k a0 a1 _ w h.out).mono ?_
 rintro e w' ⟨rfl, hb⟩
 exact ⟨_, rfl, ⟨rfl, rfl⟩, hb⟩⟩
mutual
def offcutref01_Add.l0 : Nat → ByteArray → ByteArray → ByteArray → Int → Int → Option (ByteArray)
 | 0, _, _, _, _, _ => none
 | k + 1, x0, x1, x5, x6, x7 => if x7 ≤ (x0.size : Int) then (offcutref01_Add.j1 k x0 x1 x5 x6 x7 true) else (offcutref01_Add.j1 k x0 x1 x5 x6 x7 (decide (x7 ≤ (x1.size : Int))))
def offcutref01_Add.j1 : Nat → ByteArray → ByteArray → ByteArray → Int → Int → Bool → Option (ByteArray)
 | 0, _, _, _, _, _, _ => none
 | k + 1, x0, x1, x5, x6, x7, x18 => if x18 = true then ((offcutref01_at.f x0 x7).bind fun t630 => ((offcutref01_at.f x1 x7).bind fun t631 => ((offcutref01_sign.f (Int.tmod (wrap64 ((wrap64 (t630 + t631)) + x6)) 10)).bind fun t632 => (if t632.size + x5.size ≤ 9223372036854775807 then (offcutref01_Add.l0 k x0 x1 (t632 ++ x5) (wrap64 (Int.tdiv (wrap64 ((wrap64 (t630 + t631)) + x6)) 10)) (wrap64 (x7 + 1))) else (none))))) else ((offcutref01_cut.f k x5).bind fun t633 => (some t633))
end
def offcutref01_Add.f (k : Nat) (a0 : ByteArray) (a1 : ByteArray) : Option (ByteArray) := offcutref01_Add.l0 k a0 a1 (⟨#[]⟩ : ByteArray) 0 0
set_option maxHeartbeats 8000000 in
set_option maxRecDepth 100000 in
theorem offcutref01_Add.calls (k : Nat) (a0 : ByteArray) (a1 : ByteArray) (r : ByteArray) (w : World) (h : offcutref01_Add.f k a0 a1 = some r) :
  Calls Try.prog 56 #[.string a0, .string a1] w fun e w' => e = .returned (.string r) ∧ Drawn0 w w' := by
 have H : (offcutref01_Add.l0 k a0 a1 (⟨#[]⟩ : ByteArray) 0 0) = some r := h
 clear h
 have H' := Aside0.mk H
 clear H
 go_enter Try.func56, Try.ntmps56
 go_wp2
 go_loopg [5, 6, 7] k (fun kq v5 v6 v7 w' => ∃ (x5_1 : ByteArray) (x6_1 : Int) (x7_1 : Int), v5 = .string x5_1 ∧ v6 = .int .i64 x6_1 ∧ v7 = .int .i64 x7_1 ∧ Aside0 (offcutref01_Add.l0 kq a0 a1 x5_1 x6_1 x7_1 = some r) ∧ Aside0 (kq ≤ k) ∧ Drawn0 w w')
 case atStart => exact ⟨((⟨#[]⟩ : ByteArray)), (0), (0), (by first | rfl | (simp; done) | (simp [*]; done)), (by first | rfl | (simp; done) | (simp [*]; done)), (by first | rfl | (simp; done) | (simp [*]; done)), H', ⟨Nat.le_refl _⟩, by repeat (first | exact Drawn0.refl _ | apply Drawn0.step)⟩
 case round =>
  clear H'
  try clear p2
  obtain ⟨x5_1, x6_1, x7_1, rfl, rfl, rfl, HA, HK1, ⟨m1, rfl⟩⟩ := hrel
  cases gk with
  | zero => exact absurd HA.out (by simp [offcutref01_Add.l0])
  | succ k1 =>
   have H := HA.out
   clear HA
   simp only [offcutref01_Add.l0] at H
   have HC3 := Aside0.mk H
   clear H
   go_upto_region 4 with (fail)
   go_cut [18] (fun v18 wc => ∃ (kq : Nat) (x18_2 : Bool), v18 = .bool x18_2 ∧ Aside0 (offcutref01_Add.j1 kq a0 a1 x5_1 x6_1 x7_1 x18_2 = some r) ∧ Aside0 (kq ≤ k1) ∧ Drawn0 w wc)
   case first =>
    have H := HC3.out
    clear HC3
    by_cases c4 : x7_1 ≤ (a0.size : Int)
    ·rw [if_pos c4] at H
     have c4b0 : decide (x7_1 ≤ (a0.size : Int)) = true := decide_eq_true c4
     clear c4
     (first | rw [c4b0] | (simp only [i64_w, i32_w]; rw [c4b0]) | skip)
     have H' := Aside0.mk H
     clear H
     go_wp2
     go_meet
     case rel => exact ⟨_, (true), (by first | rfl | (simp; done) | (simp [*]; done)), H', ⟨by have := HK1.out; first | omega | exact Nat.le_refl _⟩, by repeat (first | exact Drawn0.refl _ | apply Drawn0.step)⟩
    ·rw [if_neg c4] at H
     have c4b0 : decide (x7_1 ≤ (a0.size : Int)) = false := decide_eq_false c4
     clear c4
     (first | rw [c4b0] | (simp only [i64_w, i32_w]; rw [c4b0]) | skip)
     have H' := Aside0.mk H
     clear H
     go_wp2
     go_meet
     case rel => exact ⟨_, (decide (x7_1 ≤ (a1.size : Int))), (by first | rfl | (simp; done) | (simp [*]; done)), H', ⟨by have := HK1.out; first | omega | exact Nat.le_refl _⟩, by repeat (first | exact Drawn0.refl _ | apply Drawn0.step)⟩
   case rest =>
    clear HC3
    try clear p2
    try clear c4
    try clear c4b0
    try clear p2
    obtain ⟨kq, x18_2, rfl, HA, HJ2, ⟨mc2, rfl⟩⟩ := hcut
    cases kq with
    | zero => exact absurd HA.out (by simp [offcutref01_Add.j1])
    | succ kj2 =>
     have H := HA.out
     clear HA
     simp only [offcutref01_Add.j1] at H
     by_cases c5 : x18_2 = true
     ·subst c5
      have H1 : ((offcutref01_at.f a0 x7_1).bind fun t630 => ((offcutref01_at.f a1 x7_1).bind fun t631 => ((offcutref01_sign.f (Int.tmod (wrap64 ((wrap64 (t630 + t631)) + x6_1)) 10)).bind fun t632 => (if t632.size + x5_1.size ≤ 9223372036854775807 then (offcutref01_Add.l0 kj2 a0 a1 (t632 ++ x5_1) (wrap64 (Int.tdiv (wrap64 ((wrap64 (t630 + t631)) + x6_1)) 10)) (wrap64 (x7_1 + 1))) else (none))))) = some r := by rw [if_pos rfl] at H; exact H
      clear H
      have H := H1
      clear H1
      replace H := Option.bind_eq_some_iff.mp H
      obtain ⟨t630, A60, H⟩ := H
      try dsimp only at H
      have A6 := Aside0.mk A60
      clear A60
      replace H := Option.bind_eq_some_iff.mp H
      obtain ⟨t631, A70, H⟩ := H
      try dsimp only at H
      have A7 := Aside0.mk A70
      clear A70
      replace H := Option.bind_eq_some_iff.mp H
      obtain ⟨t632, A80, H⟩ := H
      try dsimp only at H
      have A8 := Aside0.mk A80
      clear A80
      by_cases c9 : t632.size + x5_1.size ≤ 9223372036854775807
      ·rw [if_pos c9] at H
       have c9b0 := eq_true c9
       have c9b1 : decide (t632.size + x5_1.size ≤ 9223372036854775807) = true := decide_eq_true c9
       try have c9b2 : (9223372036854775807 < t632.size + x5_1.size) = False := eq_false (Nat.not_lt.2 c9)
       have H' := Aside0.mk H
       clear H
       go_wp2_with (first | ((with_reducible refine gate_callee (f := 82) rfl ?_); refine Short.goesS_ (some 23) Try.func82 #[.string a0, .int .i64 x7_1] ?_; (with_reducible refine (offcutref01_at.calls a0 x7_1 t630 _ A6.out).mono ?_); rintro e w' ⟨rfl, ⟨nd, rfl⟩⟩; refine ⟨_, rfl, ?_⟩) | ((with_reducible refine gate_callee (f := 82) rfl ?_); refine Short.goesS_ (some 26) Try.func82 #[.string a1, .int .i64 x7_1] ?_; (with_reducible refine (offcutref01_at.calls a1 x7_1 t631 _ A7.out).mono ?_); rintro e w' ⟨rfl, ⟨nd, rfl⟩⟩; refine ⟨_, rfl, ?_⟩) | ((with_reducible refine gate_callee (f := 80) rfl ?_); refine Short.goesS_ (some 32) Try.func80 #[.int .i64 (Int.tmod (wrap64 ((wrap64 (t630 + t631)) + x6_1)) 10)] ?_; (with_reducible refine (offcutref01_sign.calls (Int.tmod (wrap64 ((wrap64 (t630 + t631)) + x6_1)) 10) t632 _ A8.out).mono ?_); rintro e w' ⟨rfl, ⟨nd, rfl⟩⟩; refine ⟨_, rfl, ?_⟩))
       go_roundg kj2
       case measure => have := HK1.out; have := HJ2.out; omega
       case rel => exact ⟨(t632 ++ x5_1), (wrap64 (Int.tdiv (wrap64 ((wrap64 (t630 + t631)) + x6_1)) 10)), (wrap64 (x7_1 + 1)), (by first | rfl | (simp; done) | (simp [*]; done)), (by first | rfl | (simp; done) | (simp [*]; done)), (by first | rfl | (simp; done) | (simp [*]; done)), H', ⟨by have := HK1.out; have := HJ2.out; omega⟩, by repeat (first | exact Drawn0.refl _ | apply Drawn0.step)⟩
      ·rw [if_neg c9] at H
       exact absurd H (by simp)
     ·replace c5 := Bool.eq_false_iff.mpr c5
      subst c5
      have H1 : ((offcutref01_cut.f kj2 x5_1).bind fun t633 => (some t633)) = some r := by rw [if_neg (show ¬ (false = true) by decide)] at H; exact H
      clear H
      have H := H1
      clear H1
      replace H := Option.bind_eq_some_iff.mp H
      obtain ⟨t633, A100, H⟩ := H
      replace H : (some t633) = some r := H
      have A10 := Aside0.mk A100
      clear A100
      obtain rfl := Option.some.inj H
      go_wp2_with (first | ((with_reducible refine gate_callee (f := 81) rfl ?_); refine Short.goesS_ (some 38) Try.func81 #[.string x5_1] ?_; (with_reducible refine (offcutref01_cut.calls kj2 x5_1 t633 _ A10.out).mono ?_); rintro e w' ⟨rfl, ⟨nd, rfl⟩⟩; refine ⟨_, rfl, ?_⟩))
      go_ret
      exact ⟨by first | rfl | (simp; done) | (simp [*]; done), by repeat (first | exact Drawn0.refl _ | apply Drawn0.step)⟩

theorem offcutref01_Add.l0_eq (k : Nat) {a b : List Nat} (x5 : ByteArray) (x6 : Int) (j : Nat) : offcutref01_Add.l0 (k + 1) (Dec.tx a) (Dec.tx b) x5 x6 (j : Int) = offcutref01_Add.j1 k (Dec.tx a) (Dec.tx b) x5 x6 (j : Int) (decide (j ≤ a.length ∨ j ≤ b.length)) := by
 rw [offcutref01_Add.l0, Dec.tx_size, Dec.tx_size]
 by_cases h : j ≤ a.length
 ·rw [if_pos (by omega), decide_eq_true (.inl h)]
 ·rw [if_neg (by omega)]
  rw [show decide ((j : Int) ≤ (b.length : Int)) = decide (j ≤ a.length ∨ j ≤ b.length) from decide_eq_decide.2 (by omega)]
theorem offcutref01_Add.ev_l {a b : List Nat} (ha : Dec.Ds a) (hb : Dec.Ds b) (la : a.length < 1000000000) (lb : b.length < 1000000000) (d : Nat) : ∀ (out : List Nat) (c : Nat), out.length + d = max a.length b.length + 1 → Dec.Ds out → c ≤ 1 →
  Dec.dv (a.take out.length) + Dec.dv (b.take out.length) = Dec.dv out + 10 ^ out.length * c → Ev (fun k => offcutref01_Add.l0 k (Dec.tx a) (Dec.tx b) (Dec.tx out) (c : Int) (out.length : Int)) (Dec.dec (Dec.dv a + Dec.dv b)) := by
 induction d with
 | zero =>
  intro out c hd ho hc hv
  have h1 := Dec.dv_lt ha
  have h2 := Dec.dv_lt hb
  obtain ⟨m, hm⟩ : ∃ m, out.length = m + 1 := ⟨max a.length b.length, by omega⟩
  have h3 : 10 ^ a.length ≤ 10 ^ m := Nat.pow_le_pow_right (by omega) (by omega)
  have h4 : 10 ^ b.length ≤ 10 ^ m := Nat.pow_le_pow_right (by omega) (by omega)
  rw [List.take_of_length_le (by omega), List.take_of_length_le (by omega), hm, Nat.pow_succ] at hv
  have hc0 : c = 0 := by
   rcases Nat.eq_zero_or_pos c with h | h
   ·exact h
   ·obtain rfl : c = 1 := by omega
    omega
  subst hc0
  have hvv : Dec.dv out = Dec.dv a + Dec.dv b := by omega
  refine Ev.step (f := fun k => offcutref01_Add.j1 k (Dec.tx a) (Dec.tx b) (Dec.tx out) ((0 : Nat) : Int) (out.length : Int) false) (fun k => ?_) ?_
  ·rw [offcutref01_Add.l0_eq, decide_eq_false (by omega)]
  ·refine Ev.step (f := fun k => (offcutref01_cut.f k (Dec.tx out)).bind fun t => some t) (fun k => ?_) ?_
   ·rw [offcutref01_Add.j1, if_neg (by simp)]
   ·rw [← hvv]
    exact Ev.bind (offcutref01_cut.ev ho) (Ev.now _)
 | succ d ih =>
  intro out c hd ho hc hv
  have h1 := ha.getD out.length
  have h2 := hb.getD out.length
  obtain ⟨p, hp⟩ : ∃ p, p = a.getD out.length 0 := ⟨_, rfl⟩
  obtain ⟨q, hq⟩ : ∃ q, q = b.getD out.length 0 := ⟨_, rfl⟩
  refine Ev.step (f := fun k => offcutref01_Add.j1 k (Dec.tx a) (Dec.tx b) (Dec.tx out) (c : Int) (out.length : Int) true) (fun k => ?_) ?_
  ·rw [offcutref01_Add.l0_eq, decide_eq_true (by omega)]
  ·refine Ev.step (f := fun k => offcutref01_Add.l0 k (Dec.tx a) (Dec.tx b) (Dec.tx (out ++ [(p + q + c) % 10])) (((p + q + c) / 10 : Nat) : Int) ((out.length + 1 : Nat) : Int)) (fun k => ?_) ?_
   ·rw [offcutref01_Add.j1, if_pos rfl, offcutref01_at.sem ha (by omega), offcutref01_at.sem hb (by omega), ← hp, ← hq]
    rw [Option.bind_some, Option.bind_some, Dec.w64a _ _ (by omega), Dec.w64a _ _ (by omega), Dec.tmod10, Dec.tdiv10, offcutref01_sign.sem _ (Nat.mod_lt _ (by omega)), Option.bind_some, Dec.tx_append, Dec.tx_size, Dec.tx_size, if_pos (by rw [List.length_singleton]; omega), Dec.w64n _ (by omega), Dec.w64s _ (by omega)]
   ·have := ih (out ++ [(p + q + c) % 10]) ((p + q + c) / 10) (by rw [List.length_append, List.length_singleton]; omega) (ho.snoc (Nat.mod_lt _ (by omega))) (by omega) (by
     rw [List.length_append, List.length_singleton, Dec.dv_take_succ, Dec.dv_take_succ, ← hp, ← hq, Dec.dv_snoc, Nat.pow_succ]
     have h3 : 10 ^ out.length * (p + q + c) = 10 ^ out.length * ((p + q + c) % 10 + 10 * ((p + q + c) / 10)) := by congr 1; omega
     rw [Nat.mul_add, Nat.mul_add, Nat.mul_add, ← Nat.mul_assoc] at h3
     omega)
    rw [List.length_append, List.length_singleton] at this
    exact this
theorem offcutref01_Add.ev {a b : List Nat} (ha : Dec.Ds a) (hb : Dec.Ds b) (la : a.length < 1000000000) (lb : b.length < 1000000000) : Ev (fun k => offcutref01_Add.f k (Dec.tx a) (Dec.tx b)) (Dec.dec (Dec.dv a + Dec.dv b)) :=
 offcutref01_Add.ev_l ha hb la lb (max a.length b.length + 1) [] 0 (by rw [List.length_nil]; omega) Dec.Ds.nil (by omega) (by rw [List.length_nil, List.take_zero, List.take_zero]; rfl)
set_option synthInstance.checkSynthOrder false in
open Lin in
instance offcutref01_Add.t {k : Nat} {a0 : ByteArray} {a1 : ByteArray} {r : ByteArray} [h : Ans (offcutref01_Add.f k a0 a1) r] : Tl Try.prog 56 [.one (.val (.string a0)), .one (.val (.string a1))] (.el (.one (.val (.string r)))) := ⟨Tells.of Try.func56 fun out w vs ho hl hv => by
 obtain ⟨u0, u1, rfl, h0, h1⟩ := args2 hl hv
 obtain rfl := h0.1
 obtain rfl := h1.1
 refine (offcutref01_Add.calls k a0 a1 _ w h.out).mono ?_
 rintro e w' ⟨rfl, hb⟩
 exact ⟨_, rfl, ⟨rfl, rfl⟩, below_of_drawn hb⟩⟩
end Go.Proofs.Ytcdkopidgibijaa.PR
