-- PRINTED by print.py (a twelfth state) out of the translation. Not trusted: Lean checks it.
import Derived.Stop.RegionWithIn
import Derived.Test.YtmodmjeibbgdgaaNum
import Derived.Test.YtmodmjeibbgdgaaBack
import Derived.Test.YtmodmjeibbgdgaaPRx0
import Derived.Test.YtmodmjeibbgdgaaPRx3
namespace Go.Proofs.Ytmodmjeibbgdgaa.PR
open Go.RowKit Go.Proofs.YtmodmjeibbgdgaaW.PrintWords Go.Proofs.YtmodmjeibbgdgaaW.PrintLast Go.Proofs.YtmodmjeibbgdgaaW.PrintMore
attribute [local go_sem] max2_int min2_int max_two min_two max_three min_three max_four min_four   -- for this text's walks alone
set_option linter.unusedVariables false
set_option linter.unusedSimpArgs false

/-! ### nat_Compare: function 19 -/
def nat_Compare.f (_k : Nat) (l0 : List Int) (l1 : List Int) : Option (Int) := if Num.okw l0 = true then (if Num.okw l1 = true then some (Num.cmp (Num.nv l0) (Num.nv l1)) else none) else none
theorem nat_Compare.mono : ∀ a0 a1 k, LeO (nat_Compare.f k a0 a1) (nat_Compare.f (k + 1) a0 a1) := fun _ _ _ => LeO.refl _
theorem nat_Compare.drop_eq {a b : List Int} (hl : a.length = b.length) (k : Nat) (hk : k ≤ a.length) (he : ∀ p ∈ List.range k, Back.wd a p = b[Back.ix a.length p]?.getD 0) : a.drop (a.length - k) = b.drop (a.length - k) := by
  apply List.ext_getElem
  · simp [hl]
  · intro i h1 h2
    rw [List.length_drop] at h1
    have hp := he (k - 1 - i) (List.mem_range.2 (by omega))
    have hi : a.length - 1 - (k - 1 - i) = a.length - k + i := by omega
    simp only [Back.wd, Back.ix, hi] at hp
    rw [List.getElem?_eq_getElem (by omega), List.getElem?_eq_getElem (by omega)] at hp
    simpa using hp
theorem nat_Compare.at_stop {a b : List Int} (ha : Num.Ws a) (hb : Num.Ws b) (hl : a.length = b.length) (k : Nat) (hk : k < a.length) (he : ∀ p ∈ List.range k, Back.wd a p = b[Back.ix a.length p]?.getD 0) (hne : Back.wd a k ≠ b[Back.ix a.length k]?.getD 0) :
    (if Back.wd a k < b[Back.ix a.length k]?.getD 0 then -1 else 1) = Num.cmp (Num.nv a) (Num.nv b) := by
  have hd := nat_Compare.drop_eq hl k (by omega) he
  have hq : a.length - 1 - k + 1 = a.length - k := by omega
  by_cases h : Back.wd a k < b[Back.ix a.length k]?.getD 0
  · rw [if_pos h, Num.cmp_lt (Num.nv_lt_of_at ha hb (a.length - 1 - k) (by omega) (by omega) (by rw [hq]; exact hd) (by simpa [Back.wd, Back.ix, List.getD_eq_getElem?_getD] using h))]
  · rw [if_neg h, Num.cmp_gt (Num.nv_lt_of_at hb ha (a.length - 1 - k) (by omega) (by omega) (by rw [hq]; exact hd.symm) (by simp only [Back.wd, Back.ix] at h hne; simp only [List.getD_eq_getElem?_getD]; omega))]
open Go.Shelf Back in
attribute [local go_sem] Oper.semAt_some in
set_option maxHeartbeats 1000000 in
set_option maxRecDepth 100000 in
theorem nat_Compare.calls (k : Nat) (A0 : Option Addr) (c0 : Nat) (l0 : List Int) (A1 : Option Addr) (c1 : Nat) (l1 : List Int) (r : Int) (w : World) (hr0 : Kd.C (Kd.int .u32) w A0 l0.length l0) (hc0 : l0.length ≤ c0) (hr1 : Kd.C (Kd.int .u32) w A1 l1.length l1) (hc1 : l1.length ≤ c1) (h : nat_Compare.f k l0 l1 = some r) :
    Calls Try.prog 19 #[.slice A0 l0.length c0, .slice A1 l1.length c1] w fun e w' => e = .returned (.int .i64 r) ∧ Below w.heap.size w w' := by
  have hok0 : Num.okw l0 = true := by
    unfold nat_Compare.f at h
    split at h
    · assumption
    · cases h
  have hok1 : Num.okw l1 = true := by
    unfold nat_Compare.f at h
    rw [if_pos hok0] at h
    split at h
    · assumption
    · cases h
  obtain rfl : Num.cmp (Num.nv l0) (Num.nv l1) = r := by
    unfold nat_Compare.f at h
    rw [if_pos hok0, if_pos hok1] at h
    exact Option.some.inj h
  have ht0 := nat_trim.sem hok0 (l0.length + 1) (by omega)
  have ht1 := nat_trim.sem hok1 (l1.length + 1) (by omega)
  obtain ⟨z0, hz0⟩ : ∃ z, z = Num.nd (Num.nv l0) := ⟨_, rfl⟩
  obtain ⟨z1, hz1⟩ : ∃ z, z = Num.nd (Num.nv l1) := ⟨_, rfl⟩
  have hn0 := Num.okw_nd_length hok0
  have hn1 := Num.okw_nd_length hok1
  rw [← hz0] at ht0 hn0
  rw [← hz1] at hn1
  rw [← hz1] at ht1
  have HT0 := Aside0.mk ht0
  have HT1 := Aside0.mk ht1
  have HR0 := Aside0.mk hr0
  have HC0 := Aside0.mk hc0
  have HR1 := Aside0.mk hr1
  have HC1 := Aside0.mk hc1
  have HZ0 := Aside0.mk hz0
  have HZ1 := Aside0.mk hz1
  clear ht0 ht1 hr0 hc0 hr1 hc1 hz0 hz1 h hok0 hok1
  have hB0 : Below w.heap.size w ((w.alloc (.cells #[.slice A1 l1.length c1] 23)).alloc (.cells #[.int .i64 0] 3)) := ((Below.refl _ w).alloc (Nat.le_refl _) _).alloc (by simp) _
  have bB := (Boxed.new w 23 (.slice A1 l1.length c1)).alloc (.cells #[.int .i64 0] 3)
  have bR := Boxed.new (w.alloc (.cells #[.slice A1 l1.length c1] 23)) 3 (.int .i64 0)
  rw [World.size_alloc] at bR
  refine (callsIn_wide (n := 3)).1 ?_
  refine callsIn_of_wp_marks Try.func19 rfl trivial ?_ rfl
  simp only [Try.ntmps19, List.size_toArray, List.length_cons, List.length_nil, Nat.reduceAdd, Nat.reduceSub, Array.replicate_succ, Array.replicate_zero, List.push_toArray, List.append_toArray, List.nil_append, List.cons_append]
  gi_wp2
  have hcb0 := bB.cell
  have hsz0 : ((w.alloc (.cells #[.slice A1 l1.length c1] 23)).alloc (.cells #[.int .i64 0] 3)).heap.size = w.heap.size + 2 := by simp
  generalize ((w.alloc (.cells #[.slice A1 l1.length c1] 23)).alloc (.cells #[.int .i64 0] 3)) = w0 at hB0 bB bR hcb0 hsz0 ⊢
  refine wpIn_noPanic ?_
  have hlt0 : w.heap.size < w0.heap.size := bB.lt
  gi_region_with (first | (refine ⟨trivial, ?_⟩; gi_at_call 38; (with_reducible refine (callsIn_wide.2 (nat_trim.calls _ _ _ l0 _ _ (Kd.C_below HR0.out hB0.drew) HC0.out HT0.out)).mono ?_); rintro e w1 ⟨v0, rfl, ho0, hb0⟩; obtain ⟨Az0, cz0, hv0⟩ := Kd.R_slice ho0; subst hv0; have hB1 : Below w.heap.size w w1 := hB0.drew.trans (hb0.mono hB0.size); have bB1 : Boxed w1 w.heap.size 23 (.slice A1 l1.length c1) := (hb0.block _ hlt0).trans bB; have hcb1 := bB1.cell) | (refine ⟨trivial, ?_⟩; gi_at_call 38; (with_reducible refine (callsIn_wide.2 (nat_trim.calls _ _ _ l1 _ _ (Kd.C_below HR1.out hB1) HC1.out HT1.out)).mono ?_); rintro e w2 ⟨v1, rfl, ho1, hb1⟩; obtain ⟨Az1, cz1, hv1⟩ := Kd.R_slice ho1; subst hv1; have bB2 : Boxed w2 w.heap.size 23 (.slice A1 l1.length c1) := (hb1.block _ bB1.lt).trans bB1; have hcb2 := bB2.cell; have hfb2 := bB2.frozen))
  all_goals
    refine noPanic_then ?_
    have hs0 : w0.drew.heap.size = w0.heap.size := rfl
    have hs1 := hb0.size
    have hs2 := hb1.size
    have R03 := Kd.R_far (p := ⟨w.heap.size, 0, none⟩) (Kd.R_mono (Kd.R_bound (Kd.R_below ho0 hb1)) (ok' := fun k => w0.heap.size ≤ k) (fun k hk => hk.2.1)) (fun k hk => by simp only; omega) (.slice Az1 z1.length cz1)
    have R13 := Kd.R_far (p := ⟨w.heap.size, 0, none⟩) (Kd.R_mono (Kd.R_bound ho1) (ok' := fun k => w1.heap.size ≤ k) (fun k hk => hk.2.1)) (fun k hk => by simp only; omega) (.slice Az1 z1.length cz1)
    have hB3 : Below w.heap.size w (w2.setCell ⟨w.heap.size, 0, none⟩ (.slice Az1 z1.length cz1)) := (hB1.trans (hb1.mono (by omega))).setCell (p := ⟨w.heap.size, 0, none⟩) (Nat.le_refl _) _
    have bB3 := bB2.set (.slice Az1 z1.length cz1)
    have bR3 : Boxed (w2.setCell ⟨w.heap.size, 0, none⟩ (.slice Az1 z1.length cz1)) (w.heap.size + 1) 3 (.int .i64 0) := (Below.heap_setCell _ _ _ _ (by simp)).trans ((hb1.block _ (by omega)).trans ((hb0.block _ (by omega)).trans bR))
    have hs3 : w2.heap.size = (w2.setCell ⟨w.heap.size, 0, none⟩ (.slice Az1 z1.length cz1)).heap.size := by simp [World.setCell]
    generalize w2.setCell ⟨w.heap.size, 0, none⟩ (.slice Az1 z1.length cz1) = W3 at R03 R13 hB3 bB3 bR3 hs3 ⊢
    have hc3 := bB3.cell
    have hcr3 := bR3.cell
    have hfr3 := bR3.frozen
    clear bB2 hcb2 hfb2 bB1 hcb1 hcb0 bB bR
    have hc5 : ∀ x, (W3.setCell ⟨w.heap.size + 1, 0, none⟩ (.int .i64 x)).cell? ⟨w.heap.size + 1, 0, none⟩ = some (.int .i64 x) := fun x => World.cell?_setCell_same' _ _ _ (by rw [hcr3]; rfl)
    have HC5 := Aside0.mk hc5
    clear hc5
    rcases Nat.lt_trichotomy z0.length z1.length with hl | hl | hl
    · gi_wp2
      all_goals
        have hcmp : Num.cmp (Num.nv l0) (Num.nv l1) = -1 := Num.cmp_lt (Num.lt_of_len (by rw [← HZ0.out, ← HZ1.out]; exact hl))
        refine ⟨.int .i64 (-1), ?_, by rw [hcmp], hB3.setCell (p := ⟨w.heap.size + 1, 0, none⟩) (by simp) _⟩
        have hc5 := HC5.out
        simp [results, Try.f19, go_sem, hc5]
        try omega
    · have HL := Aside0.mk hl
      gi_wp2_with (refine ⟨trivial, ?_⟩; gi_at_call 39; refine (back_in Fence.wide _ trivial rfl _ _ _ _).mono ?_; rintro e w4 ⟨rfl, rfl⟩)
      have row0 := (Row.ofR R03 (Nat.le_refl _)).below ((Below.refl W3.heap.size W3).alloc (Nat.le_refl _) (.cells #[.slice Az0 z0.length cz0] 23))
      have row1 := Row.ofR R13 (Nat.le_refl _)
      rw [hl] at row0
      have bS := Boxed.new W3 23 (.slice Az0 z1.length cz0)
      clear R03 R13 hl
      refine wpIn_rangeFunc_ownG (F := Fence.wide) (n := 3) rfl (by omega) (gf := 47) (lb := #[.pointer (some ⟨W3.heap.size, 0, none⟩)]) rfl trivial (enters_of Try.func47 (by kernel_rfl) rfl)
        (back_stops Fence.wide _ trivial rfl (by omega) W3.heap.size W3.heap.size _ z0 (by omega) _ (by simp) (by simp) bS.cell row0) KB.trans (KB.putObj (by simp) (by simp)) (Below.refl _ _) (fun _ => rfl)
        (fun pre W => (∀ p ∈ pre, wd z0 p = z1[ix z0.length p]?.getD 0) ∧ Below W3.heap.size W3 W)
        (fun c pre W => (c = .ret ∧ ∃ ini j, pre = ini ++ [j] ∧ (∀ p ∈ ini, wd z0 p = z1[ix z0.length p]?.getD 0) ∧ wd z0 j ≠ z1[ix z0.length j]?.getD 0 ∧ W.cell? ⟨w.heap.size + 1, 0, none⟩ = some (.int .i64 (if wd z0 j < z1[ix z0.length j]?.getD 0 then -1 else 1))) ∧ Below w.heap.size w W)
        (OwnFrom.and (Own.from (fun s A B row hs hg hr => hs) _) (ownFrom_below (Nat.le_refl _) (by simp)))
        (fun c => OwnFrom.and (Own.from (fun s A B row hs hg hr => by obtain ⟨hc, ini, j, e1, e2, e3, e4⟩ := hs; exact ⟨hc, ini, j, e1, e2, e3, cell_kept e4 hg hr⟩) _) (ownFrom_below (Nat.le_refl _) (by simp; omega)))
        ⟨by simp, (Below.refl _ _).alloc (Nat.le_refl _) _⟩
        (fun x => { tmps := #[.slice Az0 z1.length cz0, .slice A1 l1.length c1, undef, .pointer (some ⟨w.heap.size, 0, none⟩), .pointer (some ⟨w.heap.size + 1, 0, none⟩), .int .i64 (ix z0.length x : Int), .int .u32 (wd z0 x), .slice A0 l0.length c0, .slice Az0 z1.length cz0, .slice A1 l1.length c1, .slice Az1 z1.length cz1, .slice Az0 z1.length cz0, .int .i64 (z1.length : Int), .slice Az1 z1.length cz1, .int .i64 (z1.length : Int), .bool false, undef, undef, undef, undef, undef, undef, undef, .slice Az0 z1.length cz0, .func (.func 47) #[] #[.pointer (some ⟨W3.heap.size, 0, none⟩)], .int .i64 (ix z0.length x : Int), .int .u32 (wd z0 x), undef, undef, undef, undef, undef, undef, undef, undef, undef, undef, undef, undef, undef, undef], defers := [] }) ?assign ?body ?done ?stop
      case assign =>
        intro l x W K hK
        gi_wp2
        exact hK
      case body =>
        rintro l pre x W ⟨hp, hB⟩ hlt
        have hz : ix z0.length x < z1.length := by unfold ix; have := HL.out; omega
        rcases row1 with ⟨_, rfl⟩ | ⟨b, off, cap, e, hb, hcs⟩
        · simp at hz
        · cases e
          have hcz := (hB.cell (p := ⟨b, off + ix z0.length x, none⟩) hb).trans (hcs _ hz)
          have hcb := (hB.cell (p := ⟨w.heap.size, 0, none⟩) bB3.lt).trans hc3
          have hcr := (hB.cell (p := ⟨w.heap.size + 1, 0, none⟩) bR3.lt).trans hcr3
          have hfr := (hB.frozen (p := ⟨w.heap.size + 1, 0, none⟩) bR3.lt).trans hfr3
          obtain ⟨y, hy⟩ : ∃ y, y = z1[ix z0.length x]?.getD 0 := ⟨_, rfl⟩
          obtain ⟨u, hu⟩ : ∃ u, u = wd z0 x := ⟨_, rfl⟩
          obtain ⟨q, hq⟩ : ∃ q, q = ix z0.length x := ⟨_, rfl⟩
          rw [← hy] at hcz
          rw [← hu]
          rw [← hq] at hz hcz ⊢
          have HY := Aside0.mk hy
          have HU := Aside0.mk hu
          have HP := Aside0.mk hp
          have HB := Aside0.mk hB
          have HCR := Aside0.mk hcr
          clear hy hu hq hp hB hcs
          have hq0 : (0 : Int) ≤ (q : Int) := by omega
          rcases Int.lt_trichotomy u y with h | h | h
          · gi_wp2
            exact ⟨(KeepsOthers.setCell _ _ _).from _, ⟨rfl, pre, x, rfl, HP.out, by rw [← HU.out, ← HY.out]; omega, by rw [← HU.out, ← HY.out, if_pos h]; exact World.cell?_setCell_same' _ _ _ (by rw [HCR.out]; rfl)⟩, (hB3.trans (HB.out.mono hB3.size)).setCell (p := ⟨w.heap.size + 1, 0, none⟩) (by simp) _⟩
          · have h1 : ¬ u < y := by omega
            have h2 : ¬ y < u := by omega
            have H := Aside0.mk h
            clear h
            gi_wp2
            exact ⟨KeepsFrom.refl _ _, KB.refl _ _ _, fun p hp' => (List.mem_append.1 hp').elim (HP.out p) (fun e => by simp at e; subst e; rw [← HU.out, ← HY.out]; exact H.out), HB.out⟩
          · gi_wp2
            exact ⟨(KeepsOthers.setCell _ _ _).from _, ⟨rfl, pre, x, rfl, HP.out, by rw [← HU.out, ← HY.out]; omega, by rw [← HU.out, ← HY.out, if_neg (by omega)]; exact World.cell?_setCell_same' _ _ _ (by rw [HCR.out]; rfl)⟩, (hB3.trans (HB.out.mono hB3.size)).setCell (p := ⟨w.heap.size + 1, 0, none⟩) (by simp) _⟩
      case done =>
        rintro D ys W hD rfl ⟨hne, hB⟩ hK
        have hcr := (hB.cell (p := ⟨w.heap.size + 1, 0, none⟩) bR3.lt).trans hcr3
        have hfr := (hB.frozen (p := ⟨w.heap.size + 1, 0, none⟩) bR3.lt).trans hfr3
        have HNE := Aside0.mk hne
        clear hne
        gi_wp2
        have hK' := (KeepsOthers.setCell W ⟨w.heap.size + 1, 0, none⟩ (.int .i64 0)).same D _ hK rfl
        refine ⟨by simp, .inl ⟨_, _, rfl, run_takeDeferred hK', ?_⟩⟩
        have hc5 := cell_kept (World.cell?_setCell_same' W ⟨w.heap.size + 1, 0, none⟩ (.int .i64 0) (by rw [hcr]; rfl)) (grownBy_putObj' _ D (.deferred none)) (fun r e => by cases e; exact ⟨_, hK', rfl⟩)
        have heq : z0 = z1 := by
          have := nat_Compare.drop_eq HL.out z0.length (Nat.le_refl _) HNE.out
          simpa using this
        have hcmp : Num.cmp (Num.nv l0) (Num.nv l1) = 0 := Num.cmp_eq (by rw [← Num.nv_nd (Num.nv l0), ← Num.nv_nd (Num.nv l1), ← HZ0.out, ← HZ1.out, heq])
        refine ⟨.int .i64 0, ?_, by rw [hcmp], ((hB3.trans (hB.mono hB3.size)).setCell (p := ⟨w.heap.size + 1, 0, none⟩) (by simp) _).trans (belowK_b (w := w) (Nat.le_refl _) _ D _ _ (by simp at hD; omega) hK' rfl rfl)⟩
        simp [results, Try.f19, go_sem, hc5]
      case stop =>
        rintro D c pre W hD ⟨k', hk', rfl⟩ ⟨⟨rfl, ini, j, e1, e2, e3, hcr⟩, hB⟩ hK
        gi_wp2
        refine ⟨by simp, .inl ⟨_, _, rfl, run_takeDeferred hK, ?_⟩⟩
        have hc5 := cell_kept hcr (grownBy_putObj' _ D (.deferred none)) (fun r e => by cases e; exact ⟨_, hK, rfl⟩)
        obtain ⟨k2, rfl⟩ : ∃ k2, k' = k2 + 1 := by
          cases k' with
          | zero => simp at e1
          | succ k2 => exact ⟨k2, rfl⟩
        rw [List.range_succ] at e1
        obtain ⟨rfl, e5⟩ := List.append_inj' e1 rfl
        obtain rfl : k2 = j := by simpa using e5
        have hcmp := nat_Compare.at_stop (by rw [HZ0.out]; exact Num.Ws_nd _) (by rw [HZ1.out]; exact Num.Ws_nd _) HL.out k2 (by omega) e2 e3
        have hv : Num.cmp (Num.nv z0) (Num.nv z1) = Num.cmp (Num.nv l0) (Num.nv l1) := by rw [HZ0.out, HZ1.out, Num.nv_nd, Num.nv_nd]
        rw [hcmp, hv] at hc5
        refine ⟨.int .i64 (Num.cmp (Num.nv l0) (Num.nv l1)), ?_, rfl, hB.trans (belowK_b (w := w) (Nat.le_refl _) W D _ _ (by simp at hD; omega) hK rfl rfl)⟩
        simp [results, Try.f19, go_sem, hc5]
    · gi_wp2
      all_goals
        have hcmp : Num.cmp (Num.nv l0) (Num.nv l1) = 1 := Num.cmp_gt (Num.lt_of_len (by rw [← HZ0.out, ← HZ1.out]; exact hl))
        refine ⟨.int .i64 1, ?_, by rw [hcmp], hB3.setCell (p := ⟨w.heap.size + 1, 0, none⟩) (by simp) _⟩
        have hc5 := HC5.out
        simp [results, Try.f19, go_sem, hc5]
        try omega

end Go.Proofs.Ytmodmjeibbgdgaa.PR
