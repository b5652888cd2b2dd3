-- PRINTED by print.py (a twelfth state) out of the translation. Not trusted: Lean checks it.
import Derived.Deep.RegionWith
import Derived.Stop.RegionWithIn
import Derived.Test.YtmodmjeibbgdgaaMem
import Derived.Test.YtmodmjeibbgdgaaNum
import Derived.Test.YtmodmjeibbgdgaaBack
import Derived.Test.YtmodmjeibbgdgaaPRg0
import Derived.Test.YtmodmjeibbgdgaaPRx12
namespace Go.Proofs.Ytmodmjeibbgdgaa.PR
open Go.RowKit Go.Proofs.YtmodmjeibbgdgaaW.PrintWords Go.Proofs.YtmodmjeibbgdgaaW.PrintLast Go.Proofs.YtmodmjeibbgdgaaW.PrintMore
attribute [local go_sem] max2_int min2_int max_two min_two max_three min_three max_four min_four   -- for this text's walks alone
set_option linter.unusedVariables false
set_option linter.unusedSimpArgs false

/-! ### nat_DivMod: function 21 -/
def nat_DivMod.f (_k : Nat) (l0 : List Int) (l1 : List Int) : Option (List Int × List Int × Int) := if Num.okd l0 = true then (if Num.okd l1 = true then (if Num.nv l1 = 0 then some ([], [], 5) else some (Num.nd (Num.nv l0 / Num.nv l1), Num.nd (Num.nv l0 % Num.nv l1), 0)) else none) else none
theorem nat_DivMod.mono : ∀ a0 a1 k, LeO (nat_DivMod.f k a0 a1) (nat_DivMod.f (k + 1) a0 a1) := fun _ _ _ => LeO.refl _
/-- What the loop reckons: what is left, and the quotient's words. -/
def nat_DivMod.st (z : List Int) (B : Nat) (pre : List Nat) : Nat × List Int := pre.foldl (fun s j => ((s.1 * 4294967296 + (Back.wd z j).toNat) % B, s.2.set (Back.ix z.length j) (((s.1 * 4294967296 + (Back.wd z j).toNat) / B : Nat) : Int))) (0, List.replicate z.length 0)
theorem nat_DivMod.st_snoc (z : List Int) (B : Nat) (pre : List Nat) (x : Nat) : nat_DivMod.st z B (pre ++ [x]) = (((nat_DivMod.st z B pre).1 * 4294967296 + (Back.wd z x).toNat) % B, (nat_DivMod.st z B pre).2.set (Back.ix z.length x) ((((nat_DivMod.st z B pre).1 * 4294967296 + (Back.wd z x).toNat) / B : Nat) : Int)) := by simp [nat_DivMod.st]
theorem nat_DivMod.st_lt (z : List Int) {B : Nat} (h : B ≠ 0) (pre : List Nat) : (nat_DivMod.st z B pre).1 < B := by
  rcases List.eq_nil_or_concat pre with rfl | ⟨ini, x, rfl⟩
  · simp only [nat_DivMod.st, List.foldl_nil]; omega
  · rw [List.concat_eq_append, nat_DivMod.st_snoc]; exact Nat.mod_lt _ (by omega)
theorem nat_DivMod.u32_nat (n : Nat) (h : n < 4294967296) : IntKind.u32.wrap (n : Int) = (n : Int) := by
  have : ∀ x : Int, IntKind.u32.wrap x = x % 4294967296 := fun x => by simp [IntKind.wrap, IntKind.bits, IntKind.signed]
  rw [this, mod32_nat, Nat.mod_eq_of_lt h]
theorem nat_DivMod.quo32 (m B : Nat) (hd : m / B < 4294967296) : (Value.int .u32 (IntKind.u32.wrap (IntKind.u64.wrap ((m : Int) / (B : Int))))) = Value.int .u32 ((m / B : Nat) : Int) := by
  have hx : m / B < 18446744073709551616 := by omega
  have ht : (m : Int) / (B : Int) = ((m / B : Nat) : Int) := rfl
  generalize m / B = x at hd hx ht ⊢
  rw [ht, u64_nat x hx, nat_DivMod.u32_nat x hd]
/-- Long division, the highest word first: plain law. -/
theorem nat_DivMod.st_range (z : List Int) (hz : Num.Ws z) {B : Nat} (hB : B ≠ 0) : ∀ k, k ≤ z.length → ∃ qs, qs.length = k ∧ Num.Ws qs ∧ Num.nv qs = Num.nv (z.drop (z.length - k)) / B ∧ nat_DivMod.st z B (List.range k) = (Num.nv (z.drop (z.length - k)) % B, List.replicate (z.length - k) 0 ++ qs)
  | 0, _ => ⟨[], rfl, Num.Ws.nil, by simp [Num.nv], by simp [nat_DivMod.st, Num.nv]⟩
  | k + 1, hk => by
    obtain ⟨qs, h1, h2, h3, h4⟩ := nat_DivMod.st_range z hz hB k (by omega)
    obtain ⟨q, hq⟩ : ∃ q, q = z.length - (k + 1) := ⟨_, rfl⟩
    have hq1 : z.length - k = q + 1 := by omega
    have hql : q < z.length := by omega
    have hix : Back.ix z.length k = q := by unfold Back.ix; omega
    have hd : z.drop q = z[q] :: z.drop (q + 1) := List.drop_eq_getElem_cons hql
    have hw : Back.wd z k = z[q] := by unfold Back.wd; rw [hix, List.getElem?_eq_getElem hql]; rfl
    have hw2 := hz _ (List.getElem_mem hql)
    rw [hq1] at h3 h4
    rw [List.range_succ, nat_DivMod.st_snoc, h4, ← hq, hix, hw, hd]
    simp only [Num.nv]
    obtain ⟨u, hu⟩ : ∃ u : Nat, u = z[q].toNat := ⟨_, rfl⟩
    obtain ⟨D, hD⟩ : ∃ D, D = Num.nv (z.drop (q + 1)) := ⟨_, rfl⟩
    have hu32 : u < 4294967296 := by omega
    rw [← hu, ← hD]
    rw [← hD] at h3
    have hsum : u + 4294967296 * D = (D % B * 4294967296 + u) + B * (4294967296 * (D / B)) := by
      have h := congrArg (fun x => 4294967296 * x) (Nat.div_add_mod D B)
      simp only [Nat.mul_add] at h
      have h' := Nat.mul_left_comm B 4294967296 (D / B)
      omega
    have hlt : D % B * 4294967296 + u < B * 4294967296 := by
      have := Nat.mod_lt D (Nat.pos_of_ne_zero hB)
      have := Nat.mul_le_mul_right 4294967296 (show D % B + 1 ≤ B from this)
      omega
    have hdv : (D % B * 4294967296 + u) / B < 4294967296 := Nat.div_lt_of_lt_mul hlt
    obtain ⟨v, hv⟩ : ∃ v, v = (D % B * 4294967296 + u) / B := ⟨_, rfl⟩
    rw [← hv] at hdv
    rw [← hv]
    refine ⟨(v : Int) :: qs, by simp [h1], Num.Ws.cons (by omega) (by omega) h2, ?_, ?_⟩
    · simp only [Num.nv, Int.toNat_natCast]
      rw [h3, hsum, Nat.add_mul_div_left _ _ (Nat.pos_of_ne_zero hB), ← hv]
    · rw [hsum, Nat.add_mul_mod_self_left]
      congr 1
      rw [List.replicate_succ', List.append_assoc, List.set_append_right _ _ (by simp)]
      simp
open Go.Shelf Back Go.Proofs.YtmodmjeibbgdgaaW.PrintLast in
attribute [local go_sem] Oper.semAt_some in
set_option maxHeartbeats 8000000 in
set_option maxRecDepth 100000 in
/-- out[k] = uint32(n / uint64(b[0])). -/
theorem nat_DivMod.reg12 (l Bb Bo Br q m B b1 off1 go zl cz1 ol co : Nat) {y0 y1 y2 y4 y5 y6 y10 y12 y13 y14 y15 y16 y17 y18 y19 y20 y21 y22 y23 y24 y25 y26 y27 y28 y29 y30 y31 y32 y33 y34 y35 y36 y37 y38 y39 y40 y41 y42 y43 y44 y45 y46 y47 y48 y49 y50 y51 y52 y53 y54 y55 y56 y57 y58 y59 y60 y61 y62 y63 y64 y65 y66 y67 y68 : Value} (W : World) (v0 : Value)
    (hcB : W.cell? ⟨Bb, 0, none⟩ = some (.slice (some ⟨b1, off1, none⟩) zl cz1)) (hcO : W.cell? ⟨Bo, 0, none⟩ = some (.slice (some ⟨go, 0, none⟩) ol co)) (hcz : W.cell? ⟨b1, off1, none⟩ = some (.int .u32 (B : Int)))
    (hcq : W.cell? ⟨go, q, none⟩ = some v0) (hfq : W.frozen? ⟨go, q, none⟩ = false) (hB0 : B ≠ 0) (hB32 : B < 4294967296) (hmB : m < 4294967296 * B) (hq : (q : Int) < (ol : Int)) (hz : (0 : Int) < (zl : Int)) :
    (Code.region 12 (opsOf Try.f21 12) true : Code).wpIn (Fence.wide.inRound l) 1 Try.prog (Back.only fun a W12 => ∃ x40 x41 x42 x43 x44 x45 x46 x47 x48 x49 : Value, a = { tmps := (y0 :: y1 :: y2 :: Value.pointer (some ⟨Bb, 0, none⟩) :: y4 :: y5 :: y6 :: Value.pointer (some ⟨Bo, 0, none⟩) :: Value.pointer (some ⟨Br, 0, none⟩) :: Value.int .i64 (q : Int) :: y10 :: Value.int .u64 (m : Int) :: y12 :: y13 :: y14 :: y15 :: y16 :: y17 :: y18 :: y19 :: y20 :: y21 :: y22 :: y23 :: y24 :: y25 :: y26 :: y27 :: y28 :: y29 :: y30 :: y31 :: y32 :: y33 :: y34 :: y35 :: y36 :: y37 :: y38 :: y39 :: x40 :: x41 :: x42 :: x43 :: x44 :: x45 :: x46 :: x47 :: x48 :: x49 :: y50 :: y51 :: y52 :: y53 :: y54 :: y55 :: y56 :: y57 :: y58 :: y59 :: y60 :: y61 :: y62 :: y63 :: y64 :: y65 :: y66 :: y67 :: y68 :: []).toArray, defers := [] } ∧ W12 = W.drew.setCell ⟨go, q, none⟩ (.int .u32 ((m / B : Nat) : Int))) { tmps := (y0 :: y1 :: y2 :: Value.pointer (some ⟨Bb, 0, none⟩) :: y4 :: y5 :: y6 :: Value.pointer (some ⟨Bo, 0, none⟩) :: Value.pointer (some ⟨Br, 0, none⟩) :: Value.int .i64 (q : Int) :: y10 :: Value.int .u64 (m : Int) :: y12 :: y13 :: y14 :: y15 :: y16 :: y17 :: y18 :: y19 :: y20 :: y21 :: y22 :: y23 :: y24 :: y25 :: y26 :: y27 :: y28 :: y29 :: y30 :: y31 :: y32 :: y33 :: y34 :: y35 :: y36 :: y37 :: y38 :: y39 :: y40 :: y41 :: y42 :: y43 :: y44 :: y45 :: y46 :: y47 :: y48 :: y49 :: y50 :: y51 :: y52 :: y53 :: y54 :: y55 :: y56 :: y57 :: y58 :: y59 :: y60 :: y61 :: y62 :: y63 :: y64 :: y65 :: y66 :: y67 :: y68 :: []).toArray, defers := [] } W := by
  have hwB : IntKind.u64.wrap (B : Int) = (B : Int) := u64_nat B (by omega)
  have hB0b : ((B : Int) == 0) = false := by simpa using hB0
  have hBpos : (1 : Int) ≤ (B : Int) := by omega
  have hq0 : 0 ≤ (q : Int) := by omega
  have hqn : q < ol := by omega
  have hzn : 0 < zl := by omega
  have hd : m / B < 4294967296 := Nat.div_lt_of_lt_mul (by rw [Nat.mul_comm]; exact hmB)
  have hval := nat_DivMod.quo32 m B hd
  simp only [opsOf, opsIn, Try.f21, Option.bind_some, Option.bind]
  refine Mem.startR_ (N := 11) (S := (fun w' => w'.cell? ⟨Bo, 0, none⟩ = some (.slice (some ⟨go, 0, none⟩) ol co) ∧ w'.cell? ⟨Bb, 0, none⟩ = some (.slice (some ⟨b1, off1, none⟩) zl cz1) ∧ w'.cell? ⟨b1, off1, none⟩ = some (.int .u32 (B : Int)))) (ds := [10]) #[false, false, false, false, false, false, false, false, false, false, false] (by kernel_rfl) (by kernel_rfl) rfl rfl ⟨hcO, hcB, hcz⟩ (fun hHeld => ?_)
  replace hcq : W.drew.cell? ⟨go, q, none⟩ = some v0 := hcq
  replace hfq : W.drew.frozen? ⟨go, q, none⟩ = false := hfq
  generalize W.drew = W1 at hHeld hcq hfq ⊢
  refine take_ (i := 0) (N := some 40) (v := ?_) (a' := ?_) #[true, false, false, false, false, false, false, false, false, false, false] rfl rfl (by kernel_rfl) (fun _ _ _ h => h) (Or.inl ⟨by rfl, ?_⟩) hHeld ?_ ?_
  rotate_left
  · rintro w' ⟨s0, s1, s2⟩
    go_simp
    with_reducible rfl
  rotate_left
  · simp only [Act.put, List.setIfInBounds_toArray, List.set_cons_zero, List.set_cons_succ, i64_w, i32_w]
    rfl
  refine pure_ (i := 1) (N := some 41) (v := ?_) (a' := ?_) #[true, true, false, false, false, false, false, false, false, false, false] rfl rfl (by kernel_rfl) (fun _ _ _ h => h) (Or.inl ⟨by rfl, ?_⟩) ?_ ?_
  rotate_left
  · intro w'
    go_simp
    with_reducible rfl
  rotate_left
  · simp only [Act.put, List.setIfInBounds_toArray, List.set_cons_zero, List.set_cons_succ, i64_w, i32_w]
    rfl
  refine pure_ (i := 2) (N := some 42) (v := ?_) (a' := ?_) #[true, true, true, false, false, false, false, false, false, false, false] rfl rfl (by kernel_rfl) (fun _ _ _ h => h) (Or.inl ⟨by rfl, ?_⟩) ?_ ?_
  rotate_left
  · intro w'
    go_simp
    with_reducible rfl
  rotate_left
  · simp only [Act.put, List.setIfInBounds_toArray, List.set_cons_zero, List.set_cons_succ, i64_w, i32_w]
    rfl
  refine take_ (i := 3) (N := some 43) (v := ?_) (a' := ?_) #[true, true, true, true, false, false, false, false, false, false, false] rfl rfl (by kernel_rfl) (fun _ _ _ h => h) (Or.inl ⟨by rfl, ?_⟩) hHeld ?_ ?_
  rotate_left
  · rintro w' ⟨s0, s1, s2⟩
    go_simp
    with_reducible rfl
  rotate_left
  · simp only [Act.put, List.setIfInBounds_toArray, List.set_cons_zero, List.set_cons_succ, i64_w, i32_w]
    rfl
  refine pure_ (i := 4) (N := some 44) (v := ?_) (a' := ?_) #[true, true, true, true, true, false, false, false, false, false, false] rfl rfl (by kernel_rfl) (fun _ _ _ h => h) (Or.inl ⟨by rfl, ?_⟩) ?_ ?_
  rotate_left
  · intro w'
    go_simp
    with_reducible rfl
  rotate_left
  · simp only [Act.put, List.setIfInBounds_toArray, List.set_cons_zero, List.set_cons_succ, i64_w, i32_w]
    rfl
  refine take_ (i := 5) (N := some 45) (v := ?_) (a' := ?_) #[true, true, true, true, true, true, false, false, false, false, false] rfl rfl (by kernel_rfl) (fun _ _ _ h => h) (Or.inl ⟨by rfl, ?_⟩) hHeld ?_ ?_
  rotate_left
  · rintro w' ⟨s0, s1, s2⟩
    go_simp
    with_reducible rfl
  rotate_left
  · simp only [Act.put, List.setIfInBounds_toArray, List.set_cons_zero, List.set_cons_succ, i64_w, i32_w]
    rfl
  refine pure_ (i := 6) (N := some 46) (v := ?_) (a' := ?_) #[true, true, true, true, true, true, true, false, false, false, false] rfl rfl (by kernel_rfl) (fun _ _ _ h => h) (Or.inl ⟨by rfl, ?_⟩) ?_ ?_
  rotate_left
  · intro w'
    go_simp
    with_reducible rfl
  rotate_left
  · simp only [Act.put, List.setIfInBounds_toArray, List.set_cons_zero, List.set_cons_succ, i64_w, i32_w]
    rfl
  refine pure_ (i := 7) (N := some 47) (v := ?_) (a' := ?_) #[true, true, true, true, true, true, true, true, false, false, false] rfl rfl (by kernel_rfl) (fun _ _ _ h => h) (Or.inl ⟨by rfl, ?_⟩) ?_ ?_
  rotate_left
  · intro w'
    go_simp
    with_reducible rfl
  rotate_left
  · simp only [Act.put, List.setIfInBounds_toArray, List.set_cons_zero, List.set_cons_succ, i64_w, i32_w]
    rfl
  refine pure_ (i := 8) (N := some 48) (v := ?_) (a' := ?_) #[true, true, true, true, true, true, true, true, true, false, false] rfl rfl (by kernel_rfl) (fun _ _ _ h => h) (Or.inl ⟨by rfl, ?_⟩) ?_ ?_
  rotate_left
  · intro w'
    go_simp
    with_reducible rfl
  rotate_left
  · simp only [Act.put, List.setIfInBounds_toArray, List.set_cons_zero, List.set_cons_succ, i64_w, i32_w]
    rfl
  refine pure_ (i := 9) (N := some 49) (v := ?_) (a' := ?_) #[true, true, true, true, true, true, true, true, true, true, false] rfl rfl (by kernel_rfl) (fun _ _ _ h => h) (Or.inl ⟨by rfl, ?_⟩) ?_ ?_
  rotate_left
  · intro w'
    go_simp
    with_reducible rfl
  rotate_left
  · simp only [Act.put, List.setIfInBounds_toArray, List.set_cons_zero, List.set_cons_succ, i64_w, i32_w]
    rfl
  refine last_ (i := 10) (N := none) #[true, true, true, true, true, true, true, true, true, true, true] rfl rfl (by kernel_rfl) (by decide) (fun K hK => ?_)
  refine skip_ (w1 := ?_) (by rfl) rfl ?_ ?_
  rotate_left
  · go_simp
    rfl
  refine hK.out _ _ ?_
  clear hK K
  refine done_ (by kernel_rfl) ?_
  exact ⟨_, _, _, _, _, _, _, _, _, _, rfl, by first | rw [hval] | rfl⟩
open Go.Shelf Back Go.Proofs.YtmodmjeibbgdgaaW.PrintLast in
attribute [local go_sem] Oper.semAt_some in
set_option maxHeartbeats 8000000 in
set_option maxRecDepth 100000 in
/-- out[k], rest = digit(rest, b). -/
theorem nat_DivMod.reg14 (l Bb Bo Br q m B N5 go cz1 ol co c2 kd : Nat) (Az1 A2 : Option Addr) (z1 : List Int) {y0 y1 y2 y4 y5 y6 y10 y11 y12 y13 y14 y15 y16 y17 y18 y19 y20 y21 y22 y23 y24 y25 y26 y27 y28 y29 y30 y31 y32 y33 y34 y35 y36 y37 y38 y39 y40 y41 y42 y43 y44 y45 y46 y47 y48 y49 y50 y51 y52 y53 y54 y55 y56 y57 y58 y59 y60 y61 y62 y63 y64 y65 y66 y67 y68 : Value} (W : World) (v0 : Value)
    (hcB : W.cell? ⟨Bb, 0, none⟩ = some (.slice Az1 z1.length cz1)) (hcO : W.cell? ⟨Bo, 0, none⟩ = some (.slice (some ⟨go, 0, none⟩) ol co)) (hcR : W.cell? ⟨Br, 0, none⟩ = some (.slice A2 (Num.nd m).length c2)) (hfR : W.frozen? ⟨Br, 0, none⟩ = false)
    (hR1 : Kd.C (Kd.int .u32) W Az1 z1.length z1) (hC1 : z1.length ≤ cz1) (hV : Kd.V (Kd.int .u32) 33 W W.heap.size (fun k => N5 ≤ k) (.slice A2 (Num.nd m).length c2) (Num.nd m))
    (hcq : W.cell? ⟨go, q, none⟩ = some v0) (hfq : W.frozen? ⟨go, q, none⟩ = false) (hq : (q : Int) < (ol : Int)) (h5 : N5 ≤ W.heap.size) (hlO : Bo < W.heap.size) (hlB : Bb < W.heap.size) (hlr : Br < W.heap.size) (hlo : go < W.heap.size) (hne : Br ≠ go)
    (hdig : nat_digit.f kd (Num.nd m) z1 = some (((m / B : Nat) : Int), Num.nd (m % B))) :
    (Code.region 14 (opsOf Try.f21 14) true : Code).wpIn (Fence.wide.inRound l) 1 Try.prog (Back.only fun a W12 => ∃ x57 x58 x59 x60 x61 x62 x63 x64 x65 : Value, ∃ v1 w10, a = { tmps := (y0 :: y1 :: y2 :: Value.pointer (some ⟨Bb, 0, none⟩) :: y4 :: y5 :: y6 :: Value.pointer (some ⟨Bo, 0, none⟩) :: Value.pointer (some ⟨Br, 0, none⟩) :: Value.int .i64 (q : Int) :: y10 :: y11 :: y12 :: y13 :: y14 :: y15 :: y16 :: y17 :: y18 :: y19 :: y20 :: y21 :: y22 :: y23 :: y24 :: y25 :: y26 :: y27 :: y28 :: y29 :: y30 :: y31 :: y32 :: y33 :: y34 :: y35 :: y36 :: y37 :: y38 :: y39 :: y40 :: y41 :: y42 :: y43 :: y44 :: y45 :: y46 :: y47 :: y48 :: y49 :: y50 :: y51 :: y52 :: y53 :: y54 :: y55 :: y56 :: x57 :: x58 :: x59 :: x60 :: x61 :: x62 :: x63 :: x64 :: x65 :: y66 :: y67 :: y68 :: []).toArray, defers := [] } ∧ W12 = (w10.setCell ⟨go, q, none⟩ (.int .u32 ((m / B : Nat) : Int))).setCell ⟨Br, 0, none⟩ v1 ∧ Below W.heap.size W w10 ∧ Kd.V (Kd.int .u32) 33 w10 0 (fun k => N5 ≤ k) v1 (Num.nd (m % B))) { tmps := (y0 :: y1 :: y2 :: Value.pointer (some ⟨Bb, 0, none⟩) :: y4 :: y5 :: y6 :: Value.pointer (some ⟨Bo, 0, none⟩) :: Value.pointer (some ⟨Br, 0, none⟩) :: Value.int .i64 (q : Int) :: y10 :: y11 :: y12 :: y13 :: y14 :: y15 :: y16 :: y17 :: y18 :: y19 :: y20 :: y21 :: y22 :: y23 :: y24 :: y25 :: y26 :: y27 :: y28 :: y29 :: y30 :: y31 :: y32 :: y33 :: y34 :: y35 :: y36 :: y37 :: y38 :: y39 :: y40 :: y41 :: y42 :: y43 :: y44 :: y45 :: y46 :: y47 :: y48 :: y49 :: y50 :: y51 :: y52 :: y53 :: y54 :: y55 :: y56 :: y57 :: y58 :: y59 :: y60 :: y61 :: y62 :: y63 :: y64 :: y65 :: y66 :: y67 :: y68 :: []).toArray, defers := [] } W := by
  have hq0 : 0 ≤ (q : Int) := by omega
  have hqn : q < ol := by omega
  simp only [opsOf, opsIn, Try.f21, Option.bind_some, Option.bind]
  refine Mem.startR_ (N := 11) (S := (fun w' => w'.cell? ⟨Bo, 0, none⟩ = some (.slice (some ⟨go, 0, none⟩) ol co) ∧ w'.cell? ⟨Br, 0, none⟩ = some (.slice A2 (Num.nd m).length c2) ∧ w'.cell? ⟨Bb, 0, none⟩ = some (.slice Az1 z1.length cz1))) (ds := [9, 10]) #[false, false, false, false, false, false, false, false, false, false, false] (by kernel_rfl) (by kernel_rfl) rfl rfl ⟨hcO, hcR, hcB⟩ (fun hHeld => ?_)
  refine take_ (i := 0) (N := some 58) (v := ?_) (a' := ?_) #[true, false, false, false, false, false, false, false, false, false, false] rfl rfl (by kernel_rfl) (fun _ _ _ h => h) (Or.inl ⟨by rfl, ?_⟩) hHeld ?_ ?_
  rotate_left
  · rintro w' ⟨s0, s1, s2⟩
    go_simp
    with_reducible rfl
  rotate_left
  · simp only [Act.put, List.setIfInBounds_toArray, List.set_cons_zero, List.set_cons_succ, i64_w, i32_w]
    rfl
  refine pure_ (i := 1) (N := some 59) (v := ?_) (a' := ?_) #[true, true, false, false, false, false, false, false, false, false, false] rfl rfl (by kernel_rfl) (fun _ _ _ h => h) (Or.inl ⟨by rfl, ?_⟩) ?_ ?_
  rotate_left
  · intro w'
    go_simp
    with_reducible rfl
  rotate_left
  · simp only [Act.put, List.setIfInBounds_toArray, List.set_cons_zero, List.set_cons_succ, i64_w, i32_w]
    rfl
  refine take_ (i := 2) (N := some 60) (v := ?_) (a' := ?_) #[true, true, true, false, false, false, false, false, false, false, false] rfl rfl (by kernel_rfl) (fun _ _ _ h => h) (Or.inl ⟨by rfl, ?_⟩) hHeld ?_ ?_
  rotate_left
  · rintro w' ⟨s0, s1, s2⟩
    go_simp
    with_reducible rfl
  rotate_left
  · simp only [Act.put, List.setIfInBounds_toArray, List.set_cons_zero, List.set_cons_succ, i64_w, i32_w]
    rfl
  refine take_ (i := 3) (N := some 61) (v := ?_) (a' := ?_) #[true, true, true, true, false, false, false, false, false, false, false] rfl rfl (by kernel_rfl) (fun _ _ _ h => h) (Or.inl ⟨by rfl, ?_⟩) hHeld ?_ ?_
  rotate_left
  · rintro w' ⟨s0, s1, s2⟩
    go_simp
    with_reducible rfl
  rotate_left
  · simp only [Act.put, List.setIfInBounds_toArray, List.set_cons_zero, List.set_cons_succ, i64_w, i32_w]
    rfl
  refine one_ (i := 4) (N := some 62) #[true, true, true, true, true, false, false, false, false, false, false] rfl rfl (by kernel_rfl) (by decide) (fun K hK => ?_)
  refine goes_ Try.func40 (by kernel_rfl) rfl #[.slice A2 (Num.nd m).length c2, .slice Az1 z1.length cz1] (by rfl) rfl rfl (by (try simp only [List.map_toArray, List.map_cons, List.map_nil]); first | done | rfl) ?_
  with_reducible refine (nat_digit.calls kd (fun k => N5 ≤ k) _ _ (Num.nd m) _ _ z1 _ _ _ (Kd.V_drew hV) (Kd.C_below hR1 (Below.drew (Below.refl _ W))) hC1 hdig).mono ?_
  rintro e w10 ⟨v1, rfl, ho1, hb1⟩
  obtain ⟨Av1, cv1, hv1⟩ := Kd.V_slice ho1
  subst hv1
  refine ⟨_, rfl, ?_⟩
  have hb0 : Below W.heap.size W w10 := ((Below.refl _ W).drew).trans hb1
  have hq10 : w10.cell? ⟨go, q, none⟩ = some v0 := (hb0.cell (p := ⟨go, q, none⟩) hlo).trans hcq
  have hfq10 : w10.frozen? ⟨go, q, none⟩ = false := (hb0.frozen (p := ⟨go, q, none⟩) hlo).trans hfq
  have hr10 : w10.cell? ⟨Br, 0, none⟩ = some (.slice A2 (Num.nd m).length c2) := (hb0.cell (p := ⟨Br, 0, none⟩) hlr).trans hcR
  have hfr10 : w10.frozen? ⟨Br, 0, none⟩ = false := (hb0.frozen (p := ⟨Br, 0, none⟩) hlr).trans hfR
  refine hK.out _ _ ⟨(hb0.cell (p := ⟨Bo, 0, none⟩) hlO).trans hcO, hr10, (hb0.cell (p := ⟨Bb, 0, none⟩) hlB).trans hcB⟩ (fun hHeld => ?_)
  clear hK K
  have hrs : (w10.setCell ⟨go, q, none⟩ (.int .u32 ((m / B : Nat) : Int))).cell? ⟨Br, 0, none⟩ = some (.slice A2 (Num.nd m).length c2) := by rw [Mem.cell_set w10 hne]; exact hr10
  have hfrs : (w10.setCell ⟨go, q, none⟩ (.int .u32 ((m / B : Nat) : Int))).frozen? ⟨Br, 0, none⟩ = false := by rw [Mem.frozen_set w10 hne]; exact hfr10
  refine norm_ (a' := ?_) ?_ ?_
  rotate_left
  · show Act.put _ (some 62) _ = _
    simp only [Act.put, List.setIfInBounds_toArray, List.set_cons_zero, List.set_cons_succ, i64_w, i32_w]
    rfl
  refine pure_ (i := 5) (N := some 57) (v := ?_) (a' := ?_) #[true, true, true, true, true, true, false, false, false, false, false] rfl rfl (by kernel_rfl) (fun _ _ _ h => h) (Or.inl ⟨by rfl, ?_⟩) ?_ ?_
  rotate_left
  · intro w'
    go_simp
    with_reducible rfl
  rotate_left
  · simp only [Act.put, List.setIfInBounds_toArray, List.set_cons_zero, List.set_cons_succ, i64_w, i32_w]
    rfl
  refine pure_ (i := 6) (N := some 63) (v := ?_) (a' := ?_) #[true, true, true, true, true, true, true, false, false, false, false] rfl rfl (by kernel_rfl) (fun _ _ _ h => h) (Or.inl ⟨by rfl, ?_⟩) ?_ ?_
  rotate_left
  · intro w'
    go_simp
    with_reducible rfl
  rotate_left
  · simp only [Act.put, List.setIfInBounds_toArray, List.set_cons_zero, List.set_cons_succ, i64_w, i32_w]
    rfl
  refine pure_ (i := 7) (N := some 64) (v := ?_) (a' := ?_) #[true, true, true, true, true, true, true, true, false, false, false] rfl rfl (by kernel_rfl) (fun _ _ _ h => h) (Or.inl ⟨by rfl, ?_⟩) ?_ ?_
  rotate_left
  · intro w'
    go_simp
    with_reducible rfl
  rotate_left
  · simp only [Act.put, List.setIfInBounds_toArray, List.set_cons_zero, List.set_cons_succ, i64_w, i32_w]
    rfl
  refine pure_ (i := 8) (N := some 65) (v := ?_) (a' := ?_) #[true, true, true, true, true, true, true, true, true, false, false] rfl rfl (by kernel_rfl) (fun _ _ _ h => h) (Or.inl ⟨by rfl, ?_⟩) ?_ ?_
  rotate_left
  · intro w'
    go_simp
    with_reducible rfl
  rotate_left
  · simp only [Act.put, List.setIfInBounds_toArray, List.set_cons_zero, List.set_cons_succ, i64_w, i32_w]
    rfl
  refine last_ (i := 9) (N := none) #[true, true, true, true, true, true, true, true, true, true, false] rfl rfl (by kernel_rfl) (by decide) (fun K hK => ?_)
  refine skip_ (w1 := ?_) (by rfl) rfl ?_ ?_
  rotate_left
  · go_simp
    rfl
  refine hK.out _ _ ?_
  clear hK K
  refine last_ (i := 10) (N := none) #[true, true, true, true, true, true, true, true, true, true, true] rfl rfl (by kernel_rfl) (by decide) (fun K hK => ?_)
  refine skip_ (w1 := ?_) (by rfl) rfl ?_ ?_
  rotate_left
  · go_simp
    rfl
  refine hK.out _ _ ?_
  clear hK K
  refine done_ (by kernel_rfl) ?_
  exact ⟨_, _, _, _, _, _, _, _, _, _, w10, rfl, rfl, hb0, Kd.V_mono ho1 (fun k hk => by rcases hk with h | h; exact h; exact Nat.le_trans h5 h)⟩
open Go.Shelf Back in
attribute [local go_sem] Oper.semAt_some in
set_option maxHeartbeats 1000000 in
set_option maxRecDepth 100000 in
theorem nat_DivMod.calls (k : Nat) (A0 : Option Addr) (c0 : Nat) (l0 : List Int) (A1 : Option Addr) (c1 : Nat) (l1 : List Int) (r1 : List Int) (r2 : List Int) (r3 : Int) (w : World) (hr0 : Kd.C (Kd.int .u32) w A0 l0.length l0) (hc0 : l0.length ≤ c0) (hr1 : Kd.C (Kd.int .u32) w A1 l1.length l1) (hc1 : l1.length ≤ c1) (h : nat_DivMod.f k l0 l1 = some (r1, r2, r3)) :
    Calls Try.prog 21 #[.slice A0 l0.length c0, .slice A1 l1.length c1] w fun e w' => ∃ v0_ v1_ : Value, e = .returned (.tuple #[v0_, v1_, .int .i64 r3]) ∧ Kd.R (Kd.int .u32) 33 w' w.heap.size (fun k_ => (w.heap.size ≤ k_)) v0_ r1 ∧ Kd.V (Kd.int .u32) 33 w' w.heap.size (fun k_ => (w.heap.size ≤ k_) ∧ some k_ ≠ (v0_ : Value).ownBlock) v1_ r2 ∧ Below w.heap.size w w' := by
  have hok0 : Num.okd l0 = true := by
    unfold nat_DivMod.f at h
    split at h
    · assumption
    · cases h
  have hok1 : Num.okd l1 = true := by
    unfold nat_DivMod.f at h
    rw [if_pos hok0] at h
    split at h
    · assumption
    · cases h
  obtain ⟨hL0, hW0⟩ := (Num.okd_iff l0).1 hok0
  obtain ⟨hL1, hW1⟩ := (Num.okd_iff l1).1 hok1
  unfold nat_DivMod.f at h
  rw [if_pos hok0, if_pos hok1] at h
  have ht0 := nat_trim.sem (Num.okd_okw hok0) (l0.length + 1) (by omega)
  have ht1 := nat_trim.sem (Num.okd_okw hok1) (l1.length + 1) (by omega)
  obtain ⟨z0, hz0⟩ : ∃ z, z = Num.nd (Num.nv l0) := ⟨_, rfl⟩
  obtain ⟨z1, hz1⟩ : ∃ z, z = Num.nd (Num.nv l1) := ⟨_, rfl⟩
  have hn0 : z0.length < 549755813888 := by
    have := Num.nd_length_le (Num.nv_lt hW0)
    rw [hz0]; omega
  have hn1 : z1.length < 549755813888 := by
    have := Num.nd_length_le (Num.nv_lt hW1)
    rw [hz1]; omega
  rw [← hz0] at ht0
  rw [← hz1] at ht1
  have HT0 := Aside0.mk ht0
  have HT1 := Aside0.mk ht1
  have HR0 := Aside0.mk hr0
  have HC0 := Aside0.mk hc0
  have HR1 := Aside0.mk hr1
  have HC1 := Aside0.mk hc1
  have HZ0 := Aside0.mk hz0
  have HZ1 := Aside0.mk hz1
  have HH := Aside0.mk h
  clear ht0 ht1 hr0 hc0 hr1 hc1 hz0 hz1 h hok0 hok1 hL0 hL1 hW0 hW1
  have hB0 : Below w.heap.size w (w.alloc (.cells #[.slice A1 l1.length c1] 23)) := (Below.refl _ w).alloc (Nat.le_refl _) _
  have bB := Boxed.new w 23 (.slice A1 l1.length c1)
  refine (callsIn_wide (n := 3)).1 ?_
  refine callsIn_of_wp_marks Try.func21 rfl trivial ?_ rfl
  simp only [Try.ntmps21, List.size_toArray, List.length_cons, List.length_nil, Nat.reduceAdd, Nat.reduceSub, Array.replicate_succ, Array.replicate_zero, List.push_toArray, List.append_toArray, List.nil_append, List.cons_append]
  refine wpIn_wide.2 ?_
  go_wp2
  have hcb0 := bB.cell
  have hsz0 : (w.alloc (.cells #[.slice A1 l1.length c1] 23)).heap.size = w.heap.size + 1 := by simp
  generalize (w.alloc (.cells #[.slice A1 l1.length c1] 23)) = w0 at hB0 bB hcb0 hsz0 ⊢
  refine wp_piece (fun a W3 => ∃ Az0 cz0 Az1 cz1, a = { tmps := (Value.slice Az0 z0.length cz0 :: Value.slice A1 l1.length c1 :: undef :: Value.pointer (some ⟨w.heap.size, 0, none⟩) :: Value.slice none 0 0 :: Value.slice none 0 0 :: Value.int .i64 0 :: undef :: undef :: undef :: undef :: undef :: undef :: Value.slice A0 l0.length c0 :: Value.slice Az0 z0.length cz0 :: Value.slice A1 l1.length c1 :: Value.slice Az1 z1.length cz1 :: undef :: undef :: undef :: undef :: undef :: undef :: undef :: undef :: undef :: undef :: undef :: undef :: undef :: undef :: undef :: undef :: undef :: undef :: undef :: undef :: undef :: undef :: undef :: undef :: undef :: undef :: undef :: undef :: undef :: undef :: undef :: undef :: undef :: undef :: undef :: undef :: undef :: undef :: undef :: undef :: undef :: undef :: undef :: undef :: undef :: undef :: undef :: undef :: undef :: undef :: undef :: undef :: []).toArray, defers := [] } ∧ Kd.R (Kd.int .u32) 33 W3 w.heap.size (fun _ => True) (.slice Az0 z0.length cz0) z0 ∧ Kd.R (Kd.int .u32) 33 W3 w.heap.size (fun _ => True) (.slice Az1 z1.length cz1) z1 ∧ Below w.heap.size w W3 ∧ Boxed W3 w.heap.size 23 (.slice Az1 z1.length cz1)) ?_ ?_
  have hlt0 : w.heap.size < w0.heap.size := bB.lt
  · go_region_with (first | (go_at_call 38; (with_reducible refine (nat_trim.calls _ _ _ l0 _ _ (Kd.C_below HR0.out hB0.drew) HC0.out HT0.out).mono ?_); rintro e w1 ⟨v0, rfl, ho0, hb0⟩; obtain ⟨Az0, cz0, hv0⟩ := Kd.R_slice ho0; subst hv0; have hB1 : Below w.heap.size w w1 := hB0.drew.trans (hb0.mono hB0.size); have bB1 : Boxed w1 w.heap.size 23 (.slice A1 l1.length c1) := (hb0.block _ hlt0).trans bB; have hcb1 := bB1.cell) | (go_at_call 38; (with_reducible refine (nat_trim.calls _ _ _ l1 _ _ (Kd.C_below HR1.out hB1) HC1.out HT1.out).mono ?_); rintro e w2 ⟨v1, rfl, ho1, hb1⟩; obtain ⟨Az1, cz1, hv1⟩ := Kd.R_slice ho1; subst hv1; have bB2 : Boxed w2 w.heap.size 23 (.slice A1 l1.length c1) := (hb1.block _ bB1.lt).trans bB1; have hcb2 := bB2.cell; have hfb2 := bB2.frozen))
    all_goals
      have hs0 : w0.drew.heap.size = w0.heap.size := rfl
      have hs1 := hb0.size
      have hs2 := hb1.size
      have R03 := Kd.R_far (p := ⟨w.heap.size, 0, none⟩) (Kd.R_mono (Kd.R_bound (Kd.R_below ho0 hb1)) (ok' := fun k => w0.heap.size ≤ k) (fun k hk => hk.2.1)) (fun k hk => by simp only; omega) (.slice Az1 z1.length cz1)
      have R13 := Kd.R_far (p := ⟨w.heap.size, 0, none⟩) (Kd.R_mono (Kd.R_bound ho1) (ok' := fun k => w1.heap.size ≤ k) (fun k hk => hk.2.1)) (fun k hk => by simp only; omega) (.slice Az1 z1.length cz1)
      have hB3 : Below w.heap.size w (w2.setCell ⟨w.heap.size, 0, none⟩ (.slice Az1 z1.length cz1)) := (hB1.trans (hb1.mono (by omega))).setCell (p := ⟨w.heap.size, 0, none⟩) (Nat.le_refl _) _
      exact ⟨_, _, _, _, rfl, Kd.R_lower (Kd.R_mono R03 (fun _ _ => trivial)) (by omega), Kd.R_lower (Kd.R_mono R13 (fun _ _ => trivial)) (by omega), hB3, bB2.set _⟩
  rintro a W3 ⟨Az0, cz0, Az1, cz1, rfl, R03, R13, hB3, bB3⟩
  clear hB0 bB hcb0 hsz0
  clear w0
  refine only_then ?_
  have hc3 := bB3.cell
  by_cases hz : Num.nv l1 = 0
  · have hl1 : z1.length = 0 := by rw [HZ1.out, hz, Num.nd_zero]; rfl
    have h := HH.out
    rw [if_pos hz] at h
    simp only [Option.some.injEq, Prod.mk.injEq] at h
    obtain ⟨rfl, rfl, rfl⟩ := h
    clear hz HH
    go_wp2
    exact ⟨_, results_tmp3 rfl _ _ _, _, _, rfl, Kd.R_nil _ _ _ _ _, Kd.V_nil _ _ _ _ _, hB3⟩
  · have hl1 : 0 < z1.length := by
      rcases Nat.eq_zero_or_pos z1.length with h0 | h0
      · exact absurd (Num.nd_eq_nil.1 (by rw [← HZ1.out]; exact List.eq_nil_of_length_eq_zero h0)) hz
      · exact h0
    have h := HH.out
    rw [if_neg hz] at h
    simp only [Option.some.injEq, Prod.mk.injEq] at h
    obtain ⟨rfl, rfl, rfl⟩ := h
    have HN := Aside0.mk hz
    have HW0 : Aside0 (Num.Ws z0) := ⟨by rw [HZ0.out]; exact Num.Ws_nd _⟩
    have HW1 : Aside0 (Num.Ws z1) := ⟨by rw [HZ1.out]; exact Num.Ws_nd _⟩
    clear hz HH
    have hl1' : ¬ (z1.length : Int) = 0 := by omega
    go_wp2_with (first | ((with_reducible refine gate_dst (N := 22) rfl ?_); refine Kd.R_make (Kd.int .u32) W3.heap.size 33 rfl (N := 22) rfl 23 _ _ rfl (z0.length : Int) rfl rfl Try.underlying23 (.int .u32 0) 4 info33 rfl (by decide) (by omega) 0 (ok := fun _ => True) (okp := fun _ => True) rfl (fun _ hk => hk) trivial (by omega) (by omega) (Below.refl _ _) (Nat.le_refl _) ?_; intro vo w4 ho4 hb4 hg4 hnew4; obtain ⟨Ao, co, hvo⟩ := Kd.R_slice ho4; subst hvo; simp only [Int.toNat_natCast, List.length_replicate] at ho4) | (go_at_call 39; refine (callsIn_wide.1 (back_in Fence.wide 0 trivial rfl _ _ _ _)).mono ?_; rintro e w5 ⟨rfl, rfl⟩))
    have hs4 := hb4.size
    have bO := ((Boxed.new w4 23 (.slice Ao z0.length co)).alloc (.cells #[.slice none 0 0] 23)).alloc (.cells #[.slice Az0 z0.length cz0] 23)
    have bR := (Boxed.new (w4.alloc (.cells #[.slice Ao z0.length co] 23)) 23 (.slice none 0 0)).alloc (.cells #[.slice Az0 z0.length cz0] 23)
    have bS := Boxed.new ((w4.alloc (.cells #[.slice Ao z0.length co] 23)).alloc (.cells #[.slice none 0 0] 23)) 23 (.slice Az0 z0.length cz0)
    rw [World.size_alloc] at bR
    rw [World.size_alloc, World.size_alloc] at bS
    have RO := ((Kd.R_alloc (Kd.R_alloc (Kd.R_alloc (Kd.R_tight rfl ho4) (.cells #[.slice Ao z0.length co] 23)) (.cells #[.slice none 0 0] 23)) (.cells #[.slice Az0 z0.length cz0] 23)))
    have hB5 : Below W3.heap.size W3 (((w4.alloc (.cells #[.slice Ao z0.length co] 23)).alloc (.cells #[.slice none 0 0] 23)).alloc (.cells #[.slice Az0 z0.length cz0] 23)) := ((hb4.alloc hs4 _).alloc (by simp; omega) _).alloc (by simp; omega) _
    have hs5 : (((w4.alloc (.cells #[.slice Ao z0.length co] 23)).alloc (.cells #[.slice none 0 0] 23)).alloc (.cells #[.slice Az0 z0.length cz0] 23)).heap.size = w4.heap.size + 3 := by simp
    have hgo : ∀ g, (Value.slice Ao z0.length co).ownBlock = some g → W3.heap.size ≤ g ∧ g < w4.heap.size := fun g hg => ⟨Kd.R_base ho4 g hg, Kd.R_lt ho4 g hg⟩
    generalize (((w4.alloc (.cells #[.slice Ao z0.length co] 23)).alloc (.cells #[.slice none 0 0] 23)).alloc (.cells #[.slice Az0 z0.length cz0] 23)) = W5 at bO bR bS RO hB5 hs5 ⊢
    have row0 := (Row.ofR R03 (Nat.le_refl _)).below hB5
    have row1 := Row.ofR R13 (Nat.le_refl _)
    clear hb4 hg4 ho4 hnew4
    refine (wpIn_wide (n := 3)).1 ?_
    refine wpIn_rangeFunc_ownG (F := Fence.wide) (n := 3) rfl (by omega) (gf := 47) (lb := #[.pointer (some ⟨w4.heap.size + 1 + 1, 0, none⟩)]) rfl trivial (enters_of Try.func47 (by kernel_rfl) rfl)
      (back_stops Fence.wide _ trivial rfl (by omega) (w4.heap.size + 1 + 1) W3.heap.size _ z0 (by omega) _ (by omega) (by omega) bS.cell row0) KB.trans (KB.putObj (by omega) (by omega)) (Below.refl _ _) (fun _ => rfl)
      (fun pre W => Below W3.heap.size W5 W ∧ Boxed W w4.heap.size 23 (.slice Ao z0.length co) ∧ Kd.R (Kd.int .u32) 33 W W3.heap.size (fun k => some k = (Value.slice Ao z0.length co).ownBlock) (.slice Ao z0.length co) (nat_DivMod.st z0 (Num.nv l1) pre).2 ∧ ∃ vr, Boxed W (w4.heap.size + 1) 23 vr ∧ Kd.V (Kd.int .u32) 33 W 0 (fun k => W5.heap.size ≤ k) vr (Num.nd (nat_DivMod.st z0 (Num.nv l1) pre).1))
      (fun _ _ _ => False)
      (OwnFrom.and (ownFrom_below (by omega) (by omega)) (OwnFrom.and (Own.from (boxed_own _ _ _) _) (OwnFrom.and (Own.from (Mem.R_own _ _ _ _ _) _) (Own.from (Mem.V_own _ _ _ _ _ _) _))))
      (fun _ _ _ _ _ hs _ _ => hs)
      ⟨Below.refl _ _, bO, by simpa [nat_DivMod.st] using RO, _, bR, by simpa [nat_DivMod.st, Num.nd_zero] using Kd.V_nil _ _ _ _ _⟩
      (fun x => { tmps := (Value.slice Az0 z0.length cz0 :: Value.slice A1 l1.length c1 :: undef :: Value.pointer (some ⟨w.heap.size, 0, none⟩) :: Value.slice none 0 0 :: Value.slice none 0 0 :: Value.int .i64 0 :: Value.pointer (some ⟨w4.heap.size, 0, none⟩) :: Value.pointer (some ⟨w4.heap.size + 1, 0, none⟩) :: Value.int .i64 (ix z0.length x : Int) :: Value.int .u32 (wd z0 x) :: undef :: undef :: Value.slice A0 l0.length c0 :: Value.slice Az0 z0.length cz0 :: Value.slice A1 l1.length c1 :: Value.slice Az1 z1.length cz1 :: Value.slice Az1 z1.length cz1 :: Value.int .i64 (z1.length : Int) :: Value.bool false :: Value.slice Az0 z0.length cz0 :: Value.int .i64 (z0.length : Int) :: Value.slice Ao z0.length co :: Value.slice Az0 z0.length cz0 :: Value.func (.func 47) #[] #[.pointer (some ⟨w4.heap.size + 1 + 1, 0, none⟩)] :: Value.int .i64 (ix z0.length x : Int) :: Value.int .u32 (wd z0 x) :: undef :: undef :: undef :: undef :: undef :: undef :: undef :: undef :: undef :: undef :: undef :: undef :: undef :: undef :: undef :: undef :: undef :: undef :: undef :: undef :: undef :: undef :: undef :: undef :: undef :: undef :: undef :: undef :: undef :: undef :: undef :: undef :: undef :: undef :: undef :: undef :: undef :: undef :: undef :: undef :: undef :: undef :: []).toArray, defers := [] }) ?assign ?body ?done ?stop
    case assign =>
      intro l x W K hK
      gi_wp2
      exact hK
    case body =>
      rintro l pre x W ⟨hB5W, bO', RO', vr, bR', VR'⟩ hlt
      have hB := hB5.trans hB5W
      have hs5W := hB5W.size
      have hx : ix z0.length x < z0.length := by unfold ix; omega
      have hw := HW0.out.getD (ix z0.length x)
      obtain ⟨Ar, cr, hvr⟩ := Kd.V_slice VR'
      obtain ⟨R, hR⟩ : ∃ s, s = (nat_DivMod.st z0 (Num.nv l1) pre).1 := ⟨_, rfl⟩
      obtain ⟨O, hO⟩ : ∃ s, s = (nat_DivMod.st z0 (Num.nv l1) pre).2 := ⟨_, rfl⟩
      rw [← hR] at VR' hvr
      rw [← hO] at RO'
      subst hvr
      have hlR := (Kd.V_reads' VR').2.2
      have hcB := (hB.cell (p := ⟨w.heap.size, 0, none⟩) bB3.lt).trans hc3
      have hcO := bO'.cell
      have hcR := bR'.cell
      have hfR := bR'.frozen
      have hsW := hB5.size
      have hsB := hB.size
      obtain ⟨u, hu⟩ : ∃ u : Nat, (u : Int) = wd z0 x := ⟨(wd z0 x).toNat, by simp only [List.getD_eq_getElem?_getD] at hw; unfold wd; omega⟩
      have hu32 : u < 4294967296 := by simp only [List.getD_eq_getElem?_getD] at hw; unfold wd at hu; omega
      obtain ⟨q, hq⟩ : ∃ q, q = ix z0.length x := ⟨_, rfl⟩
      obtain ⟨B, hBe⟩ : ∃ B, B = Num.nv l1 := ⟨_, rfl⟩
      have hB0 : B ≠ 0 := by rw [hBe]; exact HN.out
      have hRB : R < B := by rw [hR, ← hBe]; exact nat_DivMod.st_lt z0 hB0 pre
      have hzB : Num.nv z1 = B := by rw [HZ1.out, Num.nv_nd, hBe]
      have hlr : (Num.nd R).length ≤ z1.length := by
        rw [HZ1.out, ← hBe]
        exact Num.nd_len_mono (by omega)
      have hnvr : Num.nv ([(u : Int)] ++ Num.nd R) = R * 4294967296 + u := by simp only [List.cons_append, List.nil_append, Num.nv, Num.nv_nd, Int.toNat_natCast]; omega
      obtain ⟨m, hm⟩ : ∃ m, m = R * 4294967296 + u := ⟨_, rfl⟩
      have HTr : Aside0 (nat_trim.f ((Num.nd R).length + 2) ([(u : Int)] ++ Num.nd R) = some (Num.nd (R * 4294967296 + u))) := ⟨by
        rw [← hnvr]
        exact nat_trim.sem_w (by rw [List.cons_append, List.nil_append]; exact Num.Ws.cons (by omega) (by omega) (Num.Ws_nd _)) (by simp; omega) _ (by simp)⟩
      obtain ⟨L1, hL1⟩ : ∃ L, L = [(u : Int)] ++ Num.nd R := ⟨_, rfl⟩
      have HTr1 : Aside0 (nat_trim.f ((Num.nd R).length + 2) L1 = some (Num.nd m)) := ⟨by rw [hL1, hm]; exact HTr.out⟩
      have HL1 := Aside0.mk hL1
      have HM := Aside0.mk hm
      have hmB : m < 4294967296 * B := by rw [hm]; have := Nat.mul_le_mul_left 4294967296 (show R + 1 ≤ B from hRB); omega
      clear hL1 HTr hm
      rw [← hq] at hx
      rw [← hq, ← hu]
      have HU := Aside0.mk hu
      have HQ := Aside0.mk hq
      have HR' := Aside0.mk hR
      have HO' := Aside0.mk hO
      have HBE := Aside0.mk hBe
      have HZB := Aside0.mk hzB
      have HB := Aside0.mk hB
      have HRO := Aside0.mk RO'
      have HVR := Aside0.mk VR'
      have HLR := Aside0.mk hlR
      have hlr4 : (1 + (Num.nd R).length) * 4 ≤ 140737488355328 := by omega
      have HGO := Aside0.mk hgo
      clear hu hq hR hO hBe hzB hw hnvr hB RO' VR' hlR hgo row0
      have hgo := HGO
      have bBW : Boxed W w.heap.size 23 (.slice Az1 z1.length cz1) := (HB.out.block _ bB3.lt).trans bB3
      have hcRL := (bR'.alloc (.cells #[.int .u32 (u : Int)] 33)).cell
      have hst : nat_DivMod.st z0 (Num.nv l1) (pre ++ [x]) = (m % B, O.set q ((m / B : Nat) : Int)) := by
        rw [nat_DivMod.st_snoc, ← HR'.out, ← HO'.out, ← HBE.out, ← HQ.out, ← HU.out, Int.toNat_natCast, ← HM.out]
      have hend : ∀ (W' : World) (v : Value), Mem.Turn W3.heap.size (w4.heap.size + 1 + 1) W W' → Boxed W' w4.heap.size 23 (.slice Ao z0.length co) → Kd.R (Kd.int .u32) 33 W' W3.heap.size (fun k => some k = (Value.slice Ao z0.length co).ownBlock) (.slice Ao z0.length co) (O.set q ((m / B : Nat) : Int)) → Boxed W' (w4.heap.size + 1) 23 v → Kd.V (Kd.int .u32) 33 W' 0 (fun k => W5.heap.size ≤ k) v (Num.nd (m % B)) →
          KeepsFrom W5.heap.size W W' ∧ KB W3.heap.size (w4.heap.size + 1 + 1) W W' ∧ Below W3.heap.size W5 W' ∧ Boxed W' w4.heap.size 23 (.slice Ao z0.length co) ∧ Kd.R (Kd.int .u32) 33 W' W3.heap.size (fun k => some k = (Value.slice Ao z0.length co).ownBlock) (.slice Ao z0.length co) (nat_DivMod.st z0 (Num.nv l1) (pre ++ [x])).2 ∧ ∃ vr, Boxed W' (w4.heap.size + 1) 23 vr ∧ Kd.V (Kd.int .u32) 33 W' 0 (fun k => W5.heap.size ≤ k) vr (Num.nd (nat_DivMod.st z0 (Num.nv l1) (pre ++ [x])).1) := by
        intro W' v hT h1 h2 h3 h4
        rw [hst]
        exact ⟨hT.ko.from _, hT.kb, hB5W.trans hT.kb.1, h1, h2, v, h3, h4⟩
      have HEND := Aside0.mk hend
      clear hst hend
      have hbb : w.heap.size < W3.heap.size := bB3.lt
      have hWs : w4.heap.size + 1 < W.heap.size := bR'.lt
      have hsB0 : W3.heap.size ≤ W.heap.size := HB.out.size
      have hBsW : w4.heap.size + 1 + 1 < W.heap.size := by omega
      by_cases hl1e : z1.length = 1
      · have HL1E := Aside0.mk hl1e
        have ht1 : ((z1.length : Int) == 1) = true := by rw [hl1e]; rfl
        clear hl1e
        have hB32 : B < 4294967296 := by
          have := Num.nv_lt HW1.out
          rw [HZB.out, HL1E.out] at this
          exact this
        have hm64 : m < 18446744073709551616 := by omega
        have hlm : (Num.nd m).length ≤ 2 := Num.nd_length_le (k := 2) hm64
        have hsm : Aside0 (nat_Small.f 0 (Num.nd m) = some ((m : Int), true)) := ⟨by
          unfold nat_Small.f
          rw [if_pos (Num.okw_of (by omega) (Num.Ws_nd m)), Num.nv_nd, if_pos hm64]⟩
        gi_wp2_with (first | (gi_at_builtin; refine Mem.wpListIn_append_rows W.heap.size rfl (.tmp 28) (.tmp 29) 23 33 rfl Try.underlying23 info33 (.slice (some ⟨W.heap.size, 0, none⟩) 1 1) [(u : Int)] (Num.nd R) Ar (Num.nd R).length cr rfl rfl (Mem.R_lit1 W _ _) (Kd.C_alloc HLR.out _) (by simp) hlr4 ?_; intro v1 w1 hv1 hg1; rw [← HL1.out] at hv1; obtain ⟨A1', c1', hv1'⟩ := Kd.R_slice hv1; subst hv1'; have hW1 : Below W.heap.size W w1 := ((Below.refl W.heap.size W).alloc (Nat.le_refl _) _).grown hg1 (by simp) (fun k hk => by simp [Value.ownBlock] at hk; omega)) | (refine ⟨trivial, ?_⟩; gi_at_call 38; (with_reducible refine (CallsIn.inRound l (callsIn_wide.2 (nat_trim.calls _ _ _ L1 _ _ (Kd.R_reads' hv1).2.2 (Kd.R_reads' hv1).2.1 HTr1.out))).mono ?_); rintro e w2 ⟨v2, rfl, ho2, hb2⟩; obtain ⟨A2, c2, hv2⟩ := Kd.R_slice ho2; subst hv2; have hW2 : Below W.heap.size W w2 := hW1.trans (hb2.mono hW1.size); have bR2 : Boxed w2 (w4.heap.size + 1) 23 (.slice Ar (Num.nd R).length cr) := (hW2.block _ bR'.lt).trans bR'; have hcR2 := bR2.cell; have hfR2 := bR2.frozen; have bR9 := bR2.set (.slice A2 (Num.nd m).length c2); have hcR9 := bR9.cell; have bB9 : Boxed (w2.setCell ⟨w4.heap.size + 1, 0, none⟩ (.slice A2 (Num.nd m).length c2)) w.heap.size 23 (.slice Az1 z1.length cz1) := Boxed.other ((hW2.block _ bBW.lt).trans bBW) (by omega) _; have hcB9 := bB9.cell; have ho9 := Kd.R_far (p := ⟨w4.heap.size + 1, 0, none⟩) (Kd.R_mono (Kd.R_bound ho2) (ok' := fun k => w1.heap.size ≤ k) (fun k hk => hk.2.1)) (fun k hk => by have := hW1.size; have := bR'.lt; simp only; omega) (.slice A2 (Num.nd m).length c2)) | (refine ⟨trivial, ?_⟩; gi_at_call 16; (with_reducible refine (CallsIn.inRound l (callsIn_wide.2 (nat_Small.calls _ _ _ (Num.nd m) _ _ _ (Kd.R_reads' ho9).2.2 (Kd.R_reads' ho9).2.1 hsm.out))).mono ?_); rintro e w10 ⟨rfl, hb10⟩))
        have hT2 : Mem.Turn W3.heap.size (w4.heap.size + 1 + 1) W w2 := Mem.Turn.below hW2 hsB0 hBsW
        have hT9 := hT2.trans (Mem.Turn.set w2 0 (b := w4.heap.size + 1) (by omega) (by omega) (.slice A2 (Num.nd m).length c2))
        have hs9 : w2.heap.size ≤ (w2.setCell ⟨w4.heap.size + 1, 0, none⟩ (.slice A2 (Num.nd m).length c2)).heap.size := by simp [World.setCell]
        have hs2 := hW2.size
        have hT10 := hT9.trans (Mem.Turn.below hb10 (by omega) (by omega))
        have bB10 : Boxed w10 w.heap.size 23 (.slice Az1 z1.length cz1) := (hb10.block _ bB9.lt).trans bB9
        have bO9 : Boxed (w2.setCell ⟨w4.heap.size + 1, 0, none⟩ (.slice A2 (Num.nd m).length c2)) w4.heap.size 23 (.slice Ao z0.length co) := Mem.boxed_set ((hW2.block _ bO'.lt).trans bO') 0 (by omega) _
        have bO10 : Boxed w10 w4.heap.size 23 (.slice Ao z0.length co) := (hb10.block _ bO9.lt).trans bO9
        have bR10 : Boxed w10 (w4.heap.size + 1) 23 (.slice A2 (Num.nd m).length c2) := (hb10.block _ bR9.lt).trans bR9
        have RO9 := Kd.R_far (p := ⟨w4.heap.size + 1, 0, none⟩) (Kd.R_below HRO.out hW2) (fun k hk => by have := (hgo.out k hk.symm).2; simp only; omega) (.slice A2 (Num.nd m).length c2)
        have RO10 := Kd.R_below RO9 hb10
        have row10 := (((row1.below HB.out).below (hT9.kb.1)).below (hb10.mono (by omega)))
        have hOl := (Kd.R_reads' RO10).1
        obtain ⟨go, cap, hge, hg1, hg2, _⟩ := Kd.R_form RO10 (by omega)
        rw [← hOl] at hge
        obtain ⟨hAo, hco⟩ : Ao = some ⟨go, 0, none⟩ ∧ co = cap := by
          injection hge with e1 e2 e3
          exact ⟨e1, e3⟩
        have hgo4 := (hgo.out go (by rw [hAo]; rfl)).2
        subst hAo
        subst hco
        obtain ⟨hcq, hfq⟩ := Kd.R_celln 0 RO10 (q : Int) (by omega) (by omega)
        have hput := (Kd.R_putg (Kd.R_drew RO10) (q : Int) ((m / B : Nat) : Int)).1
        simp only [Int.toNat_natCast] at hcq hfq hput
        have hcO10 := bO10.cell
        have hcB10 := bB10.cell
        rcases row10 with ⟨hnil, _⟩ | ⟨b1, off1, cap1, e, hb1, hcs1⟩
        · exfalso
          have := HL1E.out
          injection hnil with _ e2 _
          omega
        · obtain ⟨hAz1, hcz1⟩ : Az1 = some ⟨b1, off1, none⟩ ∧ cz1 = cap1 := by
            injection e with e1 e2 e3
            exact ⟨e1, e3⟩
          subst hAz1
          subst hcz1
          have hzv : z1[0]?.getD 0 = (B : Int) := by
            have h1 := HZB.out
            have h2 := HL1E.out
            match z1, h2 with
            | [b], _ =>
              have := HW1.out.head
              simp only [Num.nv] at h1
              simp
              omega
          have hcz := hcs1 0 (by omega)
          rw [hzv, Nat.add_zero] at hcz
          have hBpos : (1 : Int) ≤ (B : Int) := by omega
          have hBne : ¬ ((B : Int) = 0) := by omega
          have hq0 : 0 ≤ (q : Int) := by omega
          have hqz : (q : Int) < (z0.length : Int) := by omega
          have h1z : (0 : Int) < (z1.length : Int) := by omega
          have hHR := Aside0.mk RO10
          clear RO10 RO9 hsm hcs1
          have hwB : IntKind.u64.wrap (B : Int) = (B : Int) := u64_nat B (by omega)
          have hB0b : ((B : Int) == 0) = false := by simpa using hB0
          have hlo10 : W3.heap.size ≤ go := (hgo.out go rfl).1
          refine wpIn_piece _ (nat_DivMod.reg12 l w.heap.size w4.heap.size (w4.heap.size + 1) q m B b1 off1 go z1.length cz1 z0.length co w10 _ hcB10 hcO10 hcz hcq hfq hB0 hB32 hmB hqz h1z) ?_
          rintro a W12 ⟨x40, x41, x42, x43, x44, x45, x46, x47, x48, x49, rfl, hW12⟩
          have hT12 : Mem.Turn W3.heap.size (w4.heap.size + 1 + 1) W W12 := by rw [hW12]; exact (hT10.trans (Mem.Turn.drew _ _ w10)).trans (Mem.Turn.set w10.drew q (b := go) (by omega) (by omega) _)
          have bB12 : Boxed W12 w.heap.size 23 (.slice (some ⟨b1, off1, none⟩) z1.length cz1) := by rw [hW12]; exact Mem.boxed_set (W := w10.drew) bB10 q (by omega) _
          have bO12 : Boxed W12 w4.heap.size 23 (.slice (some ⟨go, 0, none⟩) z0.length co) := by rw [hW12]; exact Mem.boxed_set (W := w10.drew) bO10 q (by omega) _
          have bR12 : Boxed W12 (w4.heap.size + 1) 23 (.slice A2 (Num.nd m).length c2) := by rw [hW12]; exact Mem.boxed_set (W := w10.drew) bR10 q (by omega) _
          have R12 := hput
          rw [← hW12] at R12
          have hcz12 : W12.cell? ⟨b1, off1, none⟩ = some (.int .u32 (B : Int)) := by rw [hW12, Mem.cell_set _ (by omega)]; exact hcz
          have hs12 : W.heap.size ≤ W12.heap.size := hT12.ko.size
          clear hput hW12 hcz hcq hfq hcO10 hcB10 hHR
          have hcB12 := bB12.cell
          have hcR12 := bR12.cell
          have hfR12 := bR12.frozen
          have hmm : m % B < 18446744073709551616 := Nat.lt_trans (Nat.mod_lt _ (by omega)) (by omega)
          obtain ⟨kf, hkf⟩ := nat_Of.ev (m % B) hmm
          have hof : Aside0 (nat_Of.f kf ((m : Int) % (B : Int)) = some (Num.nd (m % B))) := ⟨by rw [← Int.natCast_emod]; exact hkf kf (Nat.le_refl _)⟩
          have hrem : IntKind.u64.wrap ((m : Int) % (B : Int)) = (m : Int) % (B : Int) := by rw [← Int.natCast_emod]; exact u64_nat _ hmm
          clear hkf
          gi_wp2_with (refine ⟨trivial, ?_⟩; gi_at_call 18; (with_reducible refine (CallsIn.inRound l (callsIn_wide.2 (nat_Of.calls _ _ _ _ hof.out))).mono ?_); rintro e w13 ⟨v3, rfl, ho3, hb3⟩; obtain ⟨A3, c3, hv3⟩ := Kd.R_slice ho3; subst hv3; have bR13 : Boxed w13 (w4.heap.size + 1) 23 (.slice A2 (Num.nd m).length c2) := (hb3.block _ bR12.lt).trans bR12; have hcR13 := bR13.cell; have hfR13 := bR13.frozen)
          have hT13 := hT12.trans (Mem.Turn.below hb3 (by omega) (by omega))
          have bO13 : Boxed w13 w4.heap.size 23 (.slice (some ⟨go, 0, none⟩) z0.length co) := (hb3.block _ bO12.lt).trans bO12
          have R13' := Kd.R_below R12 hb3
          refine HEND.out _ (.slice A3 (Num.nd (m % B)).length c3) (hT13.trans (Mem.Turn.set w13 0 (b := w4.heap.size + 1) (by omega) (by omega) _)) (Mem.boxed_set bO13 0 (by omega) _) (Kd.R_far R13' (p := ⟨w4.heap.size + 1, 0, none⟩) (fun k hk => by have := (hgo.out k hk.symm).2; simp only; omega) _) (bR13.set _) ?_
          refine Kd.V_mono (Kd.R_V (Kd.R_far (p := ⟨w4.heap.size + 1, 0, none⟩) (Kd.R_mono (Kd.R_bound ho3) (ok' := fun k => W12.heap.size ≤ k) (fun k hk => hk.2.1)) (fun k hk => by simp only; omega) _)) (fun k hk => by omega)
      · have ht1 : ((z1.length : Int) == 1) = false := by
          have : ¬ (z1.length : Int) = 1 := by omega
          simpa using this
        have hdg := nat_digit.ev HW1.out (by omega) (by rw [HZB.out]; exact hB0) m (by rw [HZB.out]; exact hmB)
        rw [HZB.out] at hdg
        obtain ⟨kd, hkd⟩ := hdg
        have HDG : Aside0 (nat_digit.f kd (Num.nd m) z1 = some (((m / B : Nat) : Int), Num.nd (m % B))) := ⟨hkd kd (Nat.le_refl _)⟩
        have hlm : (Num.nd m).length ≤ z1.length + 1 := Num.nd_length_le (by
          have h1 := Num.nv_lt HW1.out
          rw [HZB.out] at h1
          rw [Nat.mul_add, Nat.pow_add, Nat.mul_comm (2 ^ (32 * z1.length))]
          exact Nat.lt_of_lt_of_le hmB (Nat.mul_le_mul_left 4294967296 (Nat.le_of_lt h1)))
        clear hl1e hkd
        gi_wp2_with (first | (gi_at_builtin; refine Mem.wpListIn_append_rows W.heap.size rfl (.tmp 28) (.tmp 29) 23 33 rfl Try.underlying23 info33 (.slice (some ⟨W.heap.size, 0, none⟩) 1 1) [(u : Int)] (Num.nd R) Ar (Num.nd R).length cr rfl rfl (Mem.R_lit1 W _ _) (Kd.C_alloc HLR.out _) (by simp) hlr4 ?_; intro v1 w1 hv1 hg1; rw [← HL1.out] at hv1; obtain ⟨A1', c1', hv1'⟩ := Kd.R_slice hv1; subst hv1'; have hW1 : Below W.heap.size W w1 := ((Below.refl W.heap.size W).alloc (Nat.le_refl _) _).grown hg1 (by simp) (fun k hk => by simp [Value.ownBlock] at hk; omega)) | (refine ⟨trivial, ?_⟩; gi_at_call 38; (with_reducible refine (CallsIn.inRound l (callsIn_wide.2 (nat_trim.calls _ _ _ L1 _ _ (Kd.R_reads' hv1).2.2 (Kd.R_reads' hv1).2.1 HTr1.out))).mono ?_); rintro e w2 ⟨v2, rfl, ho2, hb2⟩; obtain ⟨A2, c2, hv2⟩ := Kd.R_slice ho2; subst hv2; have hW2 : Below W.heap.size W w2 := hW1.trans (hb2.mono hW1.size); have bR2 : Boxed w2 (w4.heap.size + 1) 23 (.slice Ar (Num.nd R).length cr) := (hW2.block _ bR'.lt).trans bR'; have hcR2 := bR2.cell; have hfR2 := bR2.frozen; have bR9 := bR2.set (.slice A2 (Num.nd m).length c2); have hcR9 := bR9.cell; have bB9 : Boxed (w2.setCell ⟨w4.heap.size + 1, 0, none⟩ (.slice A2 (Num.nd m).length c2)) w.heap.size 23 (.slice Az1 z1.length cz1) := Boxed.other ((hW2.block _ bBW.lt).trans bBW) (by omega) _; have hcB9 := bB9.cell; have ho9 := Kd.R_far (p := ⟨w4.heap.size + 1, 0, none⟩) (Kd.R_mono (Kd.R_bound ho2) (ok' := fun k => w1.heap.size ≤ k) (fun k hk => hk.2.1)) (fun k hk => by have := hW1.size; have := bR'.lt; simp only; omega) (.slice A2 (Num.nd m).length c2)))
        have hT2 : Mem.Turn W3.heap.size (w4.heap.size + 1 + 1) W w2 := Mem.Turn.below hW2 hsB0 hBsW
        have hT9 := hT2.trans (Mem.Turn.set w2 0 (b := w4.heap.size + 1) (by omega) (by omega) (.slice A2 (Num.nd m).length c2))
        have hs9 : w2.heap.size ≤ (w2.setCell ⟨w4.heap.size + 1, 0, none⟩ (.slice A2 (Num.nd m).length c2)).heap.size := by simp [World.setCell]
        have hs2 := hW2.size
        have hsw1 := hW1.size
        have bO9 : Boxed (w2.setCell ⟨w4.heap.size + 1, 0, none⟩ (.slice A2 (Num.nd m).length c2)) w4.heap.size 23 (.slice Ao z0.length co) := Mem.boxed_set ((hW2.block _ bO'.lt).trans bO') 0 (by omega) _
        have RO9 := Kd.R_far (p := ⟨w4.heap.size + 1, 0, none⟩) (Kd.R_below HRO.out hW2) (fun k hk => by have := (hgo.out k hk.symm).2; simp only; omega) (.slice A2 (Num.nd m).length c2)
        have hC1 : Kd.C (Kd.int .u32) (w2.setCell ⟨w4.heap.size + 1, 0, none⟩ (.slice A2 (Num.nd m).length c2)) Az1 z1.length z1 := Kd.C_below (Kd.R_reads' R13).2.2 (HB.out.trans hT9.kb.1)
        have hV9 := Kd.V_mono (Kd.R_V (base' := (w2.setCell ⟨w4.heap.size + 1, 0, none⟩ (.slice A2 (Num.nd m).length c2)).heap.size) ho9) (ok' := fun k => W5.heap.size ≤ k) (fun k hk => Nat.le_trans (by omega) hk)
        generalize (w2.setCell ⟨w4.heap.size + 1, 0, none⟩ (.slice A2 (Num.nd m).length c2)) = W9 at hT9 hs9 bR9 hcR9 bB9 hcB9 ho9 bO9 RO9 hC1 hV9 ⊢
        have hOl := (Kd.R_reads' RO9).1
        obtain ⟨go, cap, hge, hg1, hg2, _⟩ := Kd.R_form RO9 (by omega)
        rw [← hOl] at hge
        obtain ⟨hAo, hco⟩ : Ao = some ⟨go, 0, none⟩ ∧ co = cap := by
          injection hge with e1 e2 e3
          exact ⟨e1, e3⟩
        have hgo4 := (hgo.out go (by rw [hAo]; rfl)).2
        have hlo9 : W3.heap.size ≤ go := (hgo.out go (by rw [hAo]; rfl)).1
        subst hAo
        subst hco
        obtain ⟨hcq, hfq⟩ := Kd.R_celln 0 RO9 (q : Int) (by omega) (by omega)
        simp only [Int.toNat_natCast] at hcq hfq
        refine wpIn_piece _ (nat_DivMod.reg14 l w.heap.size w4.heap.size (w4.heap.size + 1) q m B W5.heap.size go cz1 z0.length co c2 kd Az1 A2 z1 W9 _ bB9.cell bO9.cell bR9.cell bR9.frozen hC1 (Kd.R_reads' R13).2.1 hV9 hcq hfq (by omega) (by omega) bO9.lt bB9.lt bR9.lt (by omega) (by omega) HDG.out) ?_
        rintro a W12 ⟨x57, x58, x59, x60, x61, x62, x63, x64, x65, v1, w10, rfl, hW12, hb10, hv10⟩
        have hs10 := hb10.size
        have RO10 := (Kd.R_putg (Kd.R_below RO9 hb10) (q : Int) ((m / B : Nat) : Int)).1
        simp only [Int.toNat_natCast] at RO10
        have bO10 : Boxed w10 w4.heap.size 23 (.slice (some ⟨go, 0, none⟩) z0.length co) := (hb10.block _ bO9.lt).trans bO9
        have bR10 : Boxed w10 (w4.heap.size + 1) 23 (.slice A2 (Num.nd m).length c2) := (hb10.block _ bR9.lt).trans bR9
        have hT10 := (hT9.trans (Mem.Turn.below hb10 (by omega) (by omega))).trans (Mem.Turn.set w10 q (b := go) (by omega) (by omega) (.int .u32 ((m / B : Nat) : Int)))
        have bO11 := Mem.boxed_set bO10 q (b := go) (by omega) (.int .u32 ((m / B : Nat) : Int))
        have bR11 := Mem.boxed_set bR10 q (b := go) (by omega) (.int .u32 ((m / B : Nat) : Int))
        have hv11 := Kd.V_far (p := ⟨go, q, none⟩) hv10 (fun k hk => by simp only; omega) (.int .u32 ((m / B : Nat) : Int))
        rw [hW12]
        refine HEND.out _ v1 (hT10.trans (Mem.Turn.set _ 0 (b := w4.heap.size + 1) (by omega) (by omega) _)) (Mem.boxed_set bO11 0 (by omega) _) (Kd.R_far RO10 (p := ⟨w4.heap.size + 1, 0, none⟩) (fun k hk => by have := (hgo.out k hk.symm).2; simp only; omega) _) (bR11.set _) (Kd.V_far (p := ⟨w4.heap.size + 1, 0, none⟩) hv11 (fun k hk => by simp only; omega) _)
    case done =>
      rintro D ys W hD rfl ⟨hB5W, bO', RO', vr, bR', VR'⟩ hK
      have hB := hB5.trans hB5W
      obtain ⟨qs, hq1, hq2, hq3, hq4⟩ := nat_DivMod.st_range z0 HW0.out HN.out z0.length (Nat.le_refl _)
      have hnz : Num.nv z0 = Num.nv l0 := by rw [HZ0.out, Num.nv_nd]
      rw [Nat.sub_self, List.drop_zero, hnz] at hq3 hq4
      rw [List.replicate_zero, List.nil_append] at hq4
      rw [hq4] at RO' VR'
      simp only at RO' VR'
      obtain ⟨Avr, cvr, hvr⟩ := Kd.V_slice VR'
      subst hvr
      obtain ⟨kt, hkt⟩ := nat_trim.ev hq2 (by rw [hq1]; omega)
      rw [hq3] at hkt
      have HT15 : Aside0 (nat_trim.f kt qs = some (Num.nd (Num.nv l0 / Num.nv l1))) := ⟨hkt kt (Nat.le_refl _)⟩
      have hRO := (Kd.R_reads' RO').2.2
      have hRc := (Kd.R_reads' RO').2.1
      rw [← hq1] at hRc
      have HRO := Aside0.mk hRO
      have HRC := Aside0.mk hRc
      have HVR := Aside0.mk VR'
      have HB := Aside0.mk hB
      have HB3 := Aside0.mk hB3
      have hcO := bO'.cell
      have hcR := bR'.cell
      rw [← hq1] at hcO
      have HK := Aside0.mk hK
      clear hq1 hq2 hq3 hq4 hkt hRO hRc RO' VR' hB HZ0 row0 row1 RO R03 R13 hK
      gi_wp2
      go_wp2
      refine wp_piece (fun a W3' => ∃ At nt ct, a = { tmps := (Value.slice Az0 z0.length cz0 :: Value.slice A1 l1.length c1 :: undef :: Value.pointer (some ⟨w.heap.size, 0, none⟩) :: Value.slice At nt ct :: Value.slice Avr (Num.nd (Num.nv l0 % Num.nv l1)).length cvr :: Value.int .i64 0 :: Value.pointer (some ⟨w4.heap.size, 0, none⟩) :: Value.pointer (some ⟨w4.heap.size + 1, 0, none⟩) :: undef :: undef :: undef :: undef :: Value.slice A0 l0.length c0 :: Value.slice Az0 z0.length cz0 :: Value.slice A1 l1.length c1 :: Value.slice Az1 z1.length cz1 :: Value.slice Az1 z1.length cz1 :: Value.int .i64 (z1.length : Int) :: Value.bool false :: Value.slice Az0 z0.length cz0 :: Value.int .i64 (z0.length : Int) :: Value.slice Ao z0.length co :: Value.slice Az0 z0.length cz0 :: Value.func (.func 47) #[] #[.pointer (some ⟨w4.heap.size + 1 + 1, 0, none⟩)] :: undef :: undef :: undef :: undef :: undef :: undef :: undef :: undef :: undef :: undef :: undef :: undef :: undef :: undef :: undef :: undef :: undef :: undef :: undef :: undef :: undef :: undef :: undef :: undef :: undef :: undef :: undef :: undef :: undef :: undef :: undef :: undef :: undef :: undef :: undef :: undef :: undef :: undef :: undef :: undef :: undef :: Value.slice Ao qs.length co :: Value.slice At nt ct :: Value.slice Avr (Num.nd (Num.nv l0 % Num.nv l1)).length cvr :: []).toArray, defers := [{ target := .collected D, args := #[] }] } ∧ Kd.R (Kd.int .u32) 33 W3' W.heap.size (fun _ => True) (.slice At nt ct) (Num.nd (Num.nv l0 / Num.nv l1)) ∧ Below W.heap.size W W3') ?_ ?_
      · go_region_with (go_at_call 38; (with_reducible refine (nat_trim.calls _ _ _ qs _ _ (Kd.C_below HRO.out (Below.drew (Below.refl _ W))) HRC.out HT15.out).mono ?_); rintro e w15 ⟨v15, rfl, ho15, hb15⟩; obtain ⟨At, ct, hvt⟩ := Kd.R_slice ho15; subst hvt; have hcR15 := (hb15.cell (p := ⟨w4.heap.size + 1, 0, none⟩) bR'.lt).trans hcR)
        all_goals exact ⟨_, _, _, rfl, ho15, (Below.drew (Below.refl _ W)).trans hb15⟩
      rintro a W15 ⟨At, nt, ct, rfl, ho15, hb15⟩
      refine only_then ?_
      have hK15 : W15.heap[D]? = some (.deferred (some [])) := (hb15.block D (Array.getElem?_eq_some_iff.1 HK.out).1).trans HK.out
      go_wp2
      have hs15 := hb15.size
      have hsB := HB.out.size
      have hsB3 := HB3.out.size
      have hsW5 := hB5W.size
      have hs35 := hB5.size
      refine ⟨(by intro e; cases e), .inl ⟨D, W15.putObj D (.deferred none), rfl, run_takeDeferred hK15, ?_⟩⟩
      refine ⟨_, results_tmp3 rfl _ _ _, _, _, rfl, ?_, ?_, ?_⟩
      · exact (Mem.R_own (β := Unit) 33 w.heap.size _ _ (fun _ => Num.nd (Num.nv l0 / Num.nv l1))).putObj (s := ()) _ (Kd.R_lower (Kd.R_mono (Kd.R_bound ho15) (ok' := fun k => w.heap.size ≤ k) (fun k hk => Nat.le_trans (by omega) hk.2.1)) (by omega)) hK15 rfl
      · exact Mem.V_put (Kd.V_mono (Kd.V_elder' HVR.out (fun k hk => Kd.R_base ho15 k hk) hb15) (fun k hk => ⟨by omega, hk.2⟩)) hK15 rfl _
      · exact ((HB3.out.trans (HB.out.mono hsB3)).trans (hb15.mono (by omega))).trans (belowK_b (w := W5) (by omega) W15 D _ _ hD hK15 rfl rfl)
    case stop =>
      rintro D c pre W _ _ h _
      exact h.elim

end Go.Proofs.Ytmodmjeibbgdgaa.PR
