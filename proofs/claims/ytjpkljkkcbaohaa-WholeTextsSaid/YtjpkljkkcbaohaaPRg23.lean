/- Several functions' printed texts in one file. -/
import Derived.Deep.RegionWith
import Derived.Stop.RegionWithIn
import Derived.Test.YtjpkljkkcbaohaaMem
import Derived.Test.YtjpkljkkcbaohaaNum
import Derived.Test.YtjpkljkkcbaohaaBack
import Derived.Test.YtjpkljkkcbaohaaPRg0
import Derived.Test.YtjpkljkkcbaohaaPRg16
section
namespace Go.Proofs.Ytjpkljkkcbaohaa.PR
open Go.RowKit Go.Proofs.YtjpkljkkcbaohaaW.PrintWords Go.Proofs.YtjpkljkkcbaohaaW.PrintLast Go.Proofs.YtjpkljkkcbaohaaW.PrintMore
attribute [local go_sem] max2_int min2_int max_two min_two max_three min_three max_four min_four   -- for this text's walks alone
set_option linter.unusedVariables false
set_option linter.unusedSimpArgs false

/-! ### nat_DivMod: function 82 -/
def nat_DivMod.f (_k : Nat) (l0 : List Int) (l1 : List Int) : Option (List Int × List Int × Int) := if Num.okd l0 = true then (if Num.okd l1 = true then (if Num.nv l1 = 0 then some ([], [], 5) else some (Num.nd (Num.nv l0 / Num.nv l1), Num.nd (Num.nv l0 % Num.nv l1), 0)) else none) else none
theorem nat_DivMod.mono : ∀ a0 a1 k, LeO (nat_DivMod.f k a0 a1) (nat_DivMod.f (k + 1) a0 a1) := fun _ _ _ => LeO.refl _
/-- What the loop reckons: what is left, and the quotient's words. -/
def nat_DivMod.st (z : List Int) (B : Nat) (pre : List Nat) : Nat × List Int := pre.foldl (fun s j => ((s.1 * 4294967296 + (Back.wd z j).toNat) % B, s.2.set (Back.ix z.length j) (((s.1 * 4294967296 + (Back.wd z j).toNat) / B : Nat) : Int))) (0, List.replicate z.length 0)
theorem nat_DivMod.st_snoc (z : List Int) (B : Nat) (pre : List Nat) (x : Nat) : nat_DivMod.st z B (pre ++ [x]) = (((nat_DivMod.st z B pre).1 * 4294967296 + (Back.wd z x).toNat) % B, (nat_DivMod.st z B pre).2.set (Back.ix z.length x) ((((nat_DivMod.st z B pre).1 * 4294967296 + (Back.wd z x).toNat) / B : Nat) : Int)) := by simp [nat_DivMod.st]
theorem nat_DivMod.st_lt (z : List Int) {B : Nat} (h : B ≠ 0) (pre : List Nat) : (nat_DivMod.st z B pre).1 < B := by
  rcases List.eq_nil_or_concat pre with rfl | ⟨ini, x, rfl⟩
  · simp only [nat_DivMod.st, List.foldl_nil]; omega
  · rw [List.concat_eq_append, nat_DivMod.st_snoc]; exact Nat.mod_lt _ (by omega)
theorem nat_DivMod.u32_nat (n : Nat) (h : n < 4294967296) : IntKind.u32.wrap (n : Int) = (n : Int) := by
  have : ∀ x : Int, IntKind.u32.wrap x = x % 4294967296 := fun x => by simp [IntKind.wrap, IntKind.bits, IntKind.signed]
  rw [this, mod32_nat, Nat.mod_eq_of_lt h]
theorem nat_DivMod.quo32 (m B : Nat) (hd : m / B < 4294967296) : (Value.int .u32 (IntKind.u32.wrap (IntKind.u64.wrap ((m : Int) / (B : Int))))) = Value.int .u32 ((m / B : Nat) : Int) := by
  have hx : m / B < 18446744073709551616 := by omega
  have ht : (m : Int) / (B : Int) = ((m / B : Nat) : Int) := rfl
  generalize m / B = x at hd hx ht ⊢
  rw [ht, u64_nat x hx, nat_DivMod.u32_nat x hd]
/-- Long division, the highest word first: plain law. -/
theorem nat_DivMod.st_range (z : List Int) (hz : Num.Ws z) {B : Nat} (hB : B ≠ 0) : ∀ k, k ≤ z.length → ∃ qs, qs.length = k ∧ Num.Ws qs ∧ Num.nv qs = Num.nv (z.drop (z.length - k)) / B ∧ nat_DivMod.st z B (List.range k) = (Num.nv (z.drop (z.length - k)) % B, List.replicate (z.length - k) 0 ++ qs)
  | 0, _ => ⟨[], rfl, Num.Ws.nil, by simp [Num.nv], by simp [nat_DivMod.st, Num.nv]⟩
  | k + 1, hk => by
    obtain ⟨qs, h1, h2, h3, h4⟩ := nat_DivMod.st_range z hz hB k (by omega)
    obtain ⟨q, hq⟩ : ∃ q, q = z.length - (k + 1) := ⟨_, rfl⟩
    have hq1 : z.length - k = q + 1 := by omega
    have hql : q < z.length := by omega
    have hix : Back.ix z.length k = q := by unfold Back.ix; omega
    have hd : z.drop q = z[q] :: z.drop (q + 1) := List.drop_eq_getElem_cons hql
    have hw : Back.wd z k = z[q] := by unfold Back.wd; rw [hix, List.getElem?_eq_getElem hql]; rfl
    have hw2 := hz _ (List.getElem_mem hql)
    rw [hq1] at h3 h4
    rw [List.range_succ, nat_DivMod.st_snoc, h4, ← hq, hix, hw, hd]
    simp only [Num.nv]
    obtain ⟨u, hu⟩ : ∃ u : Nat, u = z[q].toNat := ⟨_, rfl⟩
    obtain ⟨D, hD⟩ : ∃ D, D = Num.nv (z.drop (q + 1)) := ⟨_, rfl⟩
    have hu32 : u < 4294967296 := by omega
    rw [← hu, ← hD]
    rw [← hD] at h3
    have hsum : u + 4294967296 * D = (D % B * 4294967296 + u) + B * (4294967296 * (D / B)) := by
      have h := congrArg (fun x => 4294967296 * x) (Nat.div_add_mod D B)
      simp only [Nat.mul_add] at h
      have h' := Nat.mul_left_comm B 4294967296 (D / B)
      omega
    have hlt : D % B * 4294967296 + u < B * 4294967296 := by
      have := Nat.mod_lt D (Nat.pos_of_ne_zero hB)
      have := Nat.mul_le_mul_right 4294967296 (show D % B + 1 ≤ B from this)
      omega
    have hdv : (D % B * 4294967296 + u) / B < 4294967296 := Nat.div_lt_of_lt_mul hlt
    obtain ⟨v, hv⟩ : ∃ v, v = (D % B * 4294967296 + u) / B := ⟨_, rfl⟩
    rw [← hv] at hdv
    rw [← hv]
    refine ⟨(v : Int) :: qs, by simp [h1], Num.Ws.cons (by omega) (by omega) h2, ?_, ?_⟩
    · simp only [Num.nv, Int.toNat_natCast]
      rw [h3, hsum, Nat.add_mul_div_left _ _ (Nat.pos_of_ne_zero hB), ← hv]
    · rw [hsum, Nat.add_mul_mod_self_left]
      congr 1
      rw [List.replicate_succ', List.append_assoc, List.set_append_right _ _ (by simp)]
      simp
open Go.Shelf Back Go.Proofs.YtjpkljkkcbaohaaW.PrintLast in
attribute [local go_sem] Oper.semAt_some in
set_option maxHeartbeats 8000000 in
set_option maxRecDepth 100000 in
/-- out[k] = uint32(n / uint64(b[0])). -/
theorem nat_DivMod.reg12 (l Bb Bo Br q m B b1 off1 go zl cz1 ol co : Nat) {y0 y1 y2 y4 y5 y6 y10 y12 y13 y14 y15 y16 y17 y18 y19 y20 y21 y22 y23 y24 y25 y26 y27 y28 y29 y30 y31 y32 y33 y34 y35 y36 y37 y38 y39 y40 y41 y42 y43 y44 y45 y46 y47 y48 y49 y50 y51 y52 y53 y54 y55 y56 y57 y58 y59 y60 y61 y62 y63 y64 y65 y66 y67 y68 : Value} (W : World) (v0 : Value)
    (hcB : W.cell? ⟨Bb, 0, none⟩ = some (.slice (some ⟨b1, off1, none⟩) zl cz1)) (hcO : W.cell? ⟨Bo, 0, none⟩ = some (.slice (some ⟨go, 0, none⟩) ol co)) (hcz : W.cell? ⟨b1, off1, none⟩ = some (.int .u32 (B : Int)))
    (hcq : W.cell? ⟨go, q, none⟩ = some v0) (hfq : W.frozen? ⟨go, q, none⟩ = false) (hB0 : B ≠ 0) (hB32 : B < 4294967296) (hmB : m < 4294967296 * B) (hq : (q : Int) < (ol : Int)) (hz : (0 : Int) < (zl : Int)) :
    (Code.region 12 (opsOf Try.f82 12) true : Code).wpIn (Fence.wide.inRound l) 1 Try.prog (Back.only fun a W12 => ∃ x40 x41 x42 x43 x44 x45 x46 x47 x48 x49 : Value, a = { tmps := (y0 :: y1 :: y2 :: Value.pointer (some ⟨Bb, 0, none⟩) :: y4 :: y5 :: y6 :: Value.pointer (some ⟨Bo, 0, none⟩) :: Value.pointer (some ⟨Br, 0, none⟩) :: Value.int .i64 (q : Int) :: y10 :: Value.int .u64 (m : Int) :: y12 :: y13 :: y14 :: y15 :: y16 :: y17 :: y18 :: y19 :: y20 :: y21 :: y22 :: y23 :: y24 :: y25 :: y26 :: y27 :: y28 :: y29 :: y30 :: y31 :: y32 :: y33 :: y34 :: y35 :: y36 :: y37 :: y38 :: y39 :: x40 :: x41 :: x42 :: x43 :: x44 :: x45 :: x46 :: x47 :: x48 :: x49 :: y50 :: y51 :: y52 :: y53 :: y54 :: y55 :: y56 :: y57 :: y58 :: y59 :: y60 :: y61 :: y62 :: y63 :: y64 :: y65 :: y66 :: y67 :: y68 :: []).toArray, defers := [] } ∧ W12 = W.drew.setCell ⟨go, q, none⟩ (.int .u32 ((m / B : Nat) : Int))) { tmps := (y0 :: y1 :: y2 :: Value.pointer (some ⟨Bb, 0, none⟩) :: y4 :: y5 :: y6 :: Value.pointer (some ⟨Bo, 0, none⟩) :: Value.pointer (some ⟨Br, 0, none⟩) :: Value.int .i64 (q : Int) :: y10 :: Value.int .u64 (m : Int) :: y12 :: y13 :: y14 :: y15 :: y16 :: y17 :: y18 :: y19 :: y20 :: y21 :: y22 :: y23 :: y24 :: y25 :: y26 :: y27 :: y28 :: y29 :: y30 :: y31 :: y32 :: y33 :: y34 :: y35 :: y36 :: y37 :: y38 :: y39 :: y40 :: y41 :: y42 :: y43 :: y44 :: y45 :: y46 :: y47 :: y48 :: y49 :: y50 :: y51 :: y52 :: y53 :: y54 :: y55 :: y56 :: y57 :: y58 :: y59 :: y60 :: y61 :: y62 :: y63 :: y64 :: y65 :: y66 :: y67 :: y68 :: []).toArray, defers := [] } W := by
  have hwB : IntKind.u64.wrap (B : Int) = (B : Int) := u64_nat B (by omega)
  have hB0b : ((B : Int) == 0) = false := by simpa using hB0
  have hBpos : (1 : Int) ≤ (B : Int) := by omega
  have hq0 : 0 ≤ (q : Int) := by omega
  have hqn : q < ol := by omega
  have hzn : 0 < zl := by omega
  have hd : m / B < 4294967296 := Nat.div_lt_of_lt_mul (by rw [Nat.mul_comm]; exact hmB)
  have hval := nat_DivMod.quo32 m B hd
  simp only [opsOf, opsIn, Try.f82, Option.bind_some, Option.bind]
  refine Mem.startR_ (N := 11) (S := (fun w' => w'.cell? ⟨Bo, 0, none⟩ = some (.slice (some ⟨go, 0, none⟩) ol co) ∧ w'.cell? ⟨Bb, 0, none⟩ = some (.slice (some ⟨b1, off1, none⟩) zl cz1) ∧ w'.cell? ⟨b1, off1, none⟩ = some (.int .u32 (B : Int)))) (ds := [10]) #[false, false, false, false, false, false, false, false, false, false, false] (by kernel_rfl) (by kernel_rfl) rfl rfl ⟨hcO, hcB, hcz⟩ (fun hHeld => ?_)
  replace hcq : W.drew.cell? ⟨go, q, none⟩ = some v0 := hcq
  replace hfq : W.drew.frozen? ⟨go, q, none⟩ = false := hfq
  generalize W.drew = W1 at hHeld hcq hfq ⊢
  refine take_ (i := 0) (N := some 40) (v := ?_) (a' := ?_) #[true, false, false, false, false, false, false, false, false, false, false] rfl rfl (by kernel_rfl) (fun _ _ _ h => h) (Or.inl ⟨by rfl, ?_⟩) hHeld ?_ ?_
  rotate_left
  · rintro w' ⟨s0, s1, s2⟩
    go_simp
    with_reducible rfl
  rotate_left
  · simp only [Act.put, List.setIfInBounds_toArray, List.set_cons_zero, List.set_cons_succ, i64_w, i32_w]
    rfl
  refine pure_ (i := 1) (N := some 41) (v := ?_) (a' := ?_) #[true, true, false, false, false, false, false, false, false, false, false] rfl rfl (by kernel_rfl) (fun _ _ _ h => h) (Or.inl ⟨by rfl, ?_⟩) ?_ ?_
  rotate_left
  · intro w'
    go_simp
    with_reducible rfl
  rotate_left
  · simp only [Act.put, List.setIfInBounds_toArray, List.set_cons_zero, List.set_cons_succ, i64_w, i32_w]
    rfl
  refine pure_ (i := 2) (N := some 42) (v := ?_) (a' := ?_) #[true, true, true, false, false, false, false, false, false, false, false] rfl rfl (by kernel_rfl) (fun _ _ _ h => h) (Or.inl ⟨by rfl, ?_⟩) ?_ ?_
  rotate_left
  · intro w'
    go_simp
    with_reducible rfl
  rotate_left
  · simp only [Act.put, List.setIfInBounds_toArray, List.set_cons_zero, List.set_cons_succ, i64_w, i32_w]
    rfl
  refine take_ (i := 3) (N := some 43) (v := ?_) (a' := ?_) #[true, true, true, true, false, false, false, false, false, false, false] rfl rfl (by kernel_rfl) (fun _ _ _ h => h) (Or.inl ⟨by rfl, ?_⟩) hHeld ?_ ?_
  rotate_left
  · rintro w' ⟨s0, s1, s2⟩
    go_simp
    with_reducible rfl
  rotate_left
  · simp only [Act.put, List.setIfInBounds_toArray, List.set_cons_zero, List.set_cons_succ, i64_w, i32_w]
    rfl
  refine pure_ (i := 4) (N := some 44) (v := ?_) (a' := ?_) #[true, true, true, true, true, false, false, false, false, false, false] rfl rfl (by kernel_rfl) (fun _ _ _ h => h) (Or.inl ⟨by rfl, ?_⟩) ?_ ?_
  rotate_left
  · intro w'
    go_simp
    with_reducible rfl
  rotate_left
  · simp only [Act.put, List.setIfInBounds_toArray, List.set_cons_zero, List.set_cons_succ, i64_w, i32_w]
    rfl
  refine take_ (i := 5) (N := some 45) (v := ?_) (a' := ?_) #[true, true, true, true, true, true, false, false, false, false, false] rfl rfl (by kernel_rfl) (fun _ _ _ h => h) (Or.inl ⟨by rfl, ?_⟩) hHeld ?_ ?_
  rotate_left
  · rintro w' ⟨s0, s1, s2⟩
    go_simp
    with_reducible rfl
  rotate_left
  · simp only [Act.put, List.setIfInBounds_toArray, List.set_cons_zero, List.set_cons_succ, i64_w, i32_w]
    rfl
  refine pure_ (i := 6) (N := some 46) (v := ?_) (a' := ?_) #[true, true, true, true, true, true, true, false, false, false, false] rfl rfl (by kernel_rfl) (fun _ _ _ h => h) (Or.inl ⟨by rfl, ?_⟩) ?_ ?_
  rotate_left
  · intro w'
    go_simp
    with_reducible rfl
  rotate_left
  · simp only [Act.put, List.setIfInBounds_toArray, List.set_cons_zero, List.set_cons_succ, i64_w, i32_w]
    rfl
  refine pure_ (i := 7) (N := some 47) (v := ?_) (a' := ?_) #[true, true, true, true, true, true, true, true, false, false, false] rfl rfl (by kernel_rfl) (fun _ _ _ h => h) (Or.inl ⟨by rfl, ?_⟩) ?_ ?_
  rotate_left
  · intro w'
    go_simp
    with_reducible rfl
  rotate_left
  · simp only [Act.put, List.setIfInBounds_toArray, List.set_cons_zero, List.set_cons_succ, i64_w, i32_w]
    rfl
  refine pure_ (i := 8) (N := some 48) (v := ?_) (a' := ?_) #[true, true, true, true, true, true, true, true, true, false, false] rfl rfl (by kernel_rfl) (fun _ _ _ h => h) (Or.inl ⟨by rfl, ?_⟩) ?_ ?_
  rotate_left
  · intro w'
    go_simp
    with_reducible rfl
  rotate_left
  · simp only [Act.put, List.setIfInBounds_toArray, List.set_cons_zero, List.set_cons_succ, i64_w, i32_w]
    rfl
  refine pure_ (i := 9) (N := some 49) (v := ?_) (a' := ?_) #[true, true, true, true, true, true, true, true, true, true, false] rfl rfl (by kernel_rfl) (fun _ _ _ h => h) (Or.inl ⟨by rfl, ?_⟩) ?_ ?_
  rotate_left
  · intro w'
    go_simp
    with_reducible rfl
  rotate_left
  · simp only [Act.put, List.setIfInBounds_toArray, List.set_cons_zero, List.set_cons_succ, i64_w, i32_w]
    rfl
  refine last_ (i := 10) (N := none) #[true, true, true, true, true, true, true, true, true, true, true] rfl rfl (by kernel_rfl) (by decide) (fun K hK => ?_)
  refine skip_ (w1 := ?_) (by rfl) rfl ?_ ?_
  rotate_left
  · go_simp
    rfl
  refine hK.out _ _ ?_
  clear hK K
  refine done_ (by kernel_rfl) ?_
  exact ⟨_, _, _, _, _, _, _, _, _, _, rfl, by first | rw [hval] | rfl⟩
open Go.Shelf Back Go.Proofs.YtjpkljkkcbaohaaW.PrintLast in
attribute [local go_sem] Oper.semAt_some in
set_option maxHeartbeats 8000000 in
set_option maxRecDepth 100000 in
/-- out[k], rest = digit(rest, b). -/
theorem nat_DivMod.reg14 (l Bb Bo Br q m B N5 go cz1 ol co c2 kd : Nat) (Az1 A2 : Option Addr) (z1 : List Int) {y0 y1 y2 y4 y5 y6 y10 y11 y12 y13 y14 y15 y16 y17 y18 y19 y20 y21 y22 y23 y24 y25 y26 y27 y28 y29 y30 y31 y32 y33 y34 y35 y36 y37 y38 y39 y40 y41 y42 y43 y44 y45 y46 y47 y48 y49 y50 y51 y52 y53 y54 y55 y56 y57 y58 y59 y60 y61 y62 y63 y64 y65 y66 y67 y68 : Value} (W : World) (v0 : Value)
    (hcB : W.cell? ⟨Bb, 0, none⟩ = some (.slice Az1 z1.length cz1)) (hcO : W.cell? ⟨Bo, 0, none⟩ = some (.slice (some ⟨go, 0, none⟩) ol co)) (hcR : W.cell? ⟨Br, 0, none⟩ = some (.slice A2 (Num.nd m).length c2)) (hfR : W.frozen? ⟨Br, 0, none⟩ = false)
    (hR1 : Kd.C (Kd.int .u32) W Az1 z1.length z1) (hC1 : z1.length ≤ cz1) (hV : Kd.V (Kd.int .u32) 37 W W.heap.size (fun k => N5 ≤ k) (.slice A2 (Num.nd m).length c2) (Num.nd m))
    (hcq : W.cell? ⟨go, q, none⟩ = some v0) (hfq : W.frozen? ⟨go, q, none⟩ = false) (hq : (q : Int) < (ol : Int)) (h5 : N5 ≤ W.heap.size) (hlO : Bo < W.heap.size) (hlB : Bb < W.heap.size) (hlr : Br < W.heap.size) (hlo : go < W.heap.size) (hne : Br ≠ go)
    (hdig : nat_digit.f kd (Num.nd m) z1 = some (((m / B : Nat) : Int), Num.nd (m % B))) :
    (Code.region 14 (opsOf Try.f82 14) true : Code).wpIn (Fence.wide.inRound l) 1 Try.prog (Back.only fun a W12 => ∃ x57 x58 x59 x60 x61 x62 x63 x64 x65 : Value, ∃ v1 w10, a = { tmps := (y0 :: y1 :: y2 :: Value.pointer (some ⟨Bb, 0, none⟩) :: y4 :: y5 :: y6 :: Value.pointer (some ⟨Bo, 0, none⟩) :: Value.pointer (some ⟨Br, 0, none⟩) :: Value.int .i64 (q : Int) :: y10 :: y11 :: y12 :: y13 :: y14 :: y15 :: y16 :: y17 :: y18 :: y19 :: y20 :: y21 :: y22 :: y23 :: y24 :: y25 :: y26 :: y27 :: y28 :: y29 :: y30 :: y31 :: y32 :: y33 :: y34 :: y35 :: y36 :: y37 :: y38 :: y39 :: y40 :: y41 :: y42 :: y43 :: y44 :: y45 :: y46 :: y47 :: y48 :: y49 :: y50 :: y51 :: y52 :: y53 :: y54 :: y55 :: y56 :: x57 :: x58 :: x59 :: x60 :: x61 :: x62 :: x63 :: x64 :: x65 :: y66 :: y67 :: y68 :: []).toArray, defers := [] } ∧ W12 = (w10.setCell ⟨go, q, none⟩ (.int .u32 ((m / B : Nat) : Int))).setCell ⟨Br, 0, none⟩ v1 ∧ Below W.heap.size W w10 ∧ Kd.V (Kd.int .u32) 37 w10 0 (fun k => N5 ≤ k) v1 (Num.nd (m % B))) { tmps := (y0 :: y1 :: y2 :: Value.pointer (some ⟨Bb, 0, none⟩) :: y4 :: y5 :: y6 :: Value.pointer (some ⟨Bo, 0, none⟩) :: Value.pointer (some ⟨Br, 0, none⟩) :: Value.int .i64 (q : Int) :: y10 :: y11 :: y12 :: y13 :: y14 :: y15 :: y16 :: y17 :: y18 :: y19 :: y20 :: y21 :: y22 :: y23 :: y24 :: y25 :: y26 :: y27 :: y28 :: y29 :: y30 :: y31 :: y32 :: y33 :: y34 :: y35 :: y36 :: y37 :: y38 :: y39 :: y40 :: y41 :: y42 :: y43 :: y44 :: y45 :: y46 :: y47 :: y48 :: y49 :: y50 :: y51 :: y52 :: y53 :: y54 :: y55 :: y56 :: y57 :: y58 :: y59 :: y60 :: y61 :: y62 :: y63 :: y64 :: y65 :: y66 :: y67 :: y68 :: []).toArray, defers := [] } W := by
  have hq0 : 0 ≤ (q : Int) := by omega
  have hqn : q < ol := by omega
  simp only [opsOf, opsIn, Try.f82, Option.bind_some, Option.bind]
  refine Mem.startR_ (N := 11) (S := (fun w' => w'.cell? ⟨Bo, 0, none⟩ = some (.slice (some ⟨go, 0, none⟩) ol co) ∧ w'.cell? ⟨Br, 0, none⟩ = some (.slice A2 (Num.nd m).length c2) ∧ w'.cell? ⟨Bb, 0, none⟩ = some (.slice Az1 z1.length cz1))) (ds := [9, 10]) #[false, false, false, false, false, false, false, false, false, false, false] (by kernel_rfl) (by kernel_rfl) rfl rfl ⟨hcO, hcR, hcB⟩ (fun hHeld => ?_)
  refine take_ (i := 0) (N := some 58) (v := ?_) (a' := ?_) #[true, false, false, false, false, false, false, false, false, false, false] rfl rfl (by kernel_rfl) (fun _ _ _ h => h) (Or.inl ⟨by rfl, ?_⟩) hHeld ?_ ?_
  rotate_left
  · rintro w' ⟨s0, s1, s2⟩
    go_simp
    with_reducible rfl
  rotate_left
  · simp only [Act.put, List.setIfInBounds_toArray, List.set_cons_zero, List.set_cons_succ, i64_w, i32_w]
    rfl
  refine pure_ (i := 1) (N := some 59) (v := ?_) (a' := ?_) #[true, true, false, false, false, false, false, false, false, false, false] rfl rfl (by kernel_rfl) (fun _ _ _ h => h) (Or.inl ⟨by rfl, ?_⟩) ?_ ?_
  rotate_left
  · intro w'
    go_simp
    with_reducible rfl
  rotate_left
  · simp only [Act.put, List.setIfInBounds_toArray, List.set_cons_zero, List.set_cons_succ, i64_w, i32_w]
    rfl
  refine take_ (i := 2) (N := some 60) (v := ?_) (a' := ?_) #[true, true, true, false, false, false, false, false, false, false, false] rfl rfl (by kernel_rfl) (fun _ _ _ h => h) (Or.inl ⟨by rfl, ?_⟩) hHeld ?_ ?_
  rotate_left
  · rintro w' ⟨s0, s1, s2⟩
    go_simp
    with_reducible rfl
  rotate_left
  · simp only [Act.put, List.setIfInBounds_toArray, List.set_cons_zero, List.set_cons_succ, i64_w, i32_w]
    rfl
  refine take_ (i := 3) (N := some 61) (v := ?_) (a' := ?_) #[true, true, true, true, false, false, false, false, false, false, false] rfl rfl (by kernel_rfl) (fun _ _ _ h => h) (Or.inl ⟨by rfl, ?_⟩) hHeld ?_ ?_
  rotate_left
  · rintro w' ⟨s0, s1, s2⟩
    go_simp
    with_reducible rfl
  rotate_left
  · simp only [Act.put, List.setIfInBounds_toArray, List.set_cons_zero, List.set_cons_succ, i64_w, i32_w]
    rfl
  refine one_ (i := 4) (N := some 62) #[true, true, true, true, true, false, false, false, false, false, false] rfl rfl (by kernel_rfl) (by decide) (fun K hK => ?_)
  refine goes_ Try.func102 (by kernel_rfl) rfl #[.slice A2 (Num.nd m).length c2, .slice Az1 z1.length cz1] (by rfl) rfl rfl (by (try simp only [List.map_toArray, List.map_cons, List.map_nil]); first | done | rfl) ?_
  with_reducible refine (nat_digit.calls kd (fun k => N5 ≤ k) _ _ (Num.nd m) _ _ z1 _ _ _ (Kd.V_drew hV) (Kd.C_below hR1 (Below.drew (Below.refl _ W))) hC1 hdig).mono ?_
  rintro e w10 ⟨v1, rfl, ho1, hb1⟩
  obtain ⟨Av1, cv1, hv1⟩ := Kd.V_slice ho1
  subst hv1
  refine ⟨_, rfl, ?_⟩
  have hb0 : Below W.heap.size W w10 := ((Below.refl _ W).drew).trans hb1
  have hq10 : w10.cell? ⟨go, q, none⟩ = some v0 := (hb0.cell (p := ⟨go, q, none⟩) hlo).trans hcq
  have hfq10 : w10.frozen? ⟨go, q, none⟩ = false := (hb0.frozen (p := ⟨go, q, none⟩) hlo).trans hfq
  have hr10 : w10.cell? ⟨Br, 0, none⟩ = some (.slice A2 (Num.nd m).length c2) := (hb0.cell (p := ⟨Br, 0, none⟩) hlr).trans hcR
  have hfr10 : w10.frozen? ⟨Br, 0, none⟩ = false := (hb0.frozen (p := ⟨Br, 0, none⟩) hlr).trans hfR
  refine hK.out _ _ ⟨(hb0.cell (p := ⟨Bo, 0, none⟩) hlO).trans hcO, hr10, (hb0.cell (p := ⟨Bb, 0, none⟩) hlB).trans hcB⟩ (fun hHeld => ?_)
  clear hK K
  have hrs : (w10.setCell ⟨go, q, none⟩ (.int .u32 ((m / B : Nat) : Int))).cell? ⟨Br, 0, none⟩ = some (.slice A2 (Num.nd m).length c2) := by rw [Mem.cell_set w10 hne]; exact hr10
  have hfrs : (w10.setCell ⟨go, q, none⟩ (.int .u32 ((m / B : Nat) : Int))).frozen? ⟨Br, 0, none⟩ = false := by rw [Mem.frozen_set w10 hne]; exact hfr10
  refine norm_ (a' := ?_) ?_ ?_
  rotate_left
  · show Act.put _ (some 62) _ = _
    simp only [Act.put, List.setIfInBounds_toArray, List.set_cons_zero, List.set_cons_succ, i64_w, i32_w]
    rfl
  refine pure_ (i := 5) (N := some 57) (v := ?_) (a' := ?_) #[true, true, true, true, true, true, false, false, false, false, false] rfl rfl (by kernel_rfl) (fun _ _ _ h => h) (Or.inl ⟨by rfl, ?_⟩) ?_ ?_
  rotate_left
  · intro w'
    go_simp
    with_reducible rfl
  rotate_left
  · simp only [Act.put, List.setIfInBounds_toArray, List.set_cons_zero, List.set_cons_succ, i64_w, i32_w]
    rfl
  refine pure_ (i := 6) (N := some 63) (v := ?_) (a' := ?_) #[true, true, true, true, true, true, true, false, false, false, false] rfl rfl (by kernel_rfl) (fun _ _ _ h => h) (Or.inl ⟨by rfl, ?_⟩) ?_ ?_
  rotate_left
  · intro w'
    go_simp
    with_reducible rfl
  rotate_left
  · simp only [Act.put, List.setIfInBounds_toArray, List.set_cons_zero, List.set_cons_succ, i64_w, i32_w]
    rfl
  refine pure_ (i := 7) (N := some 64) (v := ?_) (a' := ?_) #[true, true, true, true, true, true, true, true, false, false, false] rfl rfl (by kernel_rfl) (fun _ _ _ h => h) (Or.inl ⟨by rfl, ?_⟩) ?_ ?_
  rotate_left
  · intro w'
    go_simp
    with_reducible rfl
  rotate_left
  · simp only [Act.put, List.setIfInBounds_toArray, List.set_cons_zero, List.set_cons_succ, i64_w, i32_w]
    rfl
  refine pure_ (i := 8) (N := some 65) (v := ?_) (a' := ?_) #[true, true, true, true, true, true, true, true, true, false, false] rfl rfl (by kernel_rfl) (fun _ _ _ h => h) (Or.inl ⟨by rfl, ?_⟩) ?_ ?_
  rotate_left
  · intro w'
    go_simp
    with_reducible rfl
  rotate_left
  · simp only [Act.put, List.setIfInBounds_toArray, List.set_cons_zero, List.set_cons_succ, i64_w, i32_w]
    rfl
  refine last_ (i := 9) (N := none) #[true, true, true, true, true, true, true, true, true, true, false] rfl rfl (by kernel_rfl) (by decide) (fun K hK => ?_)
  refine skip_ (w1 := ?_) (by rfl) rfl ?_ ?_
  rotate_left
  · go_simp
    rfl
  refine hK.out _ _ ?_
  clear hK K
  refine last_ (i := 10) (N := none) #[true, true, true, true, true, true, true, true, true, true, true] rfl rfl (by kernel_rfl) (by decide) (fun K hK => ?_)
  refine skip_ (w1 := ?_) (by rfl) rfl ?_ ?_
  rotate_left
  · go_simp
    rfl
  refine hK.out _ _ ?_
  clear hK K
  refine done_ (by kernel_rfl) ?_
  exact ⟨_, _, _, _, _, _, _, _, _, _, w10, rfl, rfl, hb0, Kd.V_mono ho1 (fun k hk => by rcases hk with h | h; exact h; exact Nat.le_trans h5 h)⟩
open Go.Shelf Back in
attribute [local go_sem] Oper.semAt_some in
set_option maxHeartbeats 1000000 in
set_option maxRecDepth 100000 in
theorem nat_DivMod.calls (k : Nat) (A0 : Option Addr) (c0 : Nat) (l0 : List Int) (A1 : Option Addr) (c1 : Nat) (l1 : List Int) (r1 : List Int) (r2 : List Int) (r3 : Int) (w : World) (hr0 : Kd.C (Kd.int .u32) w A0 l0.length l0) (hc0 : l0.length ≤ c0) (hr1 : Kd.C (Kd.int .u32) w A1 l1.length l1) (hc1 : l1.length ≤ c1) (h : nat_DivMod.f k l0 l1 = some (r1, r2, r3)) :
    Calls Try.prog 82 #[.slice A0 l0.length c0, .slice A1 l1.length c1] w fun e w' => ∃ v0_ v1_ : Value, e = .returned (.tuple #[v0_, v1_, .int .i64 r3]) ∧ Kd.R (Kd.int .u32) 37 w' w.heap.size (fun k_ => (w.heap.size ≤ k_)) v0_ r1 ∧ Kd.V (Kd.int .u32) 37 w' w.heap.size (fun k_ => (w.heap.size ≤ k_) ∧ some k_ ≠ (v0_ : Value).ownBlock) v1_ r2 ∧ Below w.heap.size w w' := by
  have hok0 : Num.okd l0 = true := by
    unfold nat_DivMod.f at h
    split at h
    · assumption
    · cases h
  have hok1 : Num.okd l1 = true := by
    unfold nat_DivMod.f at h
    rw [if_pos hok0] at h
    split at h
    · assumption
    · cases h
  obtain ⟨hL0, hW0⟩ := (Num.okd_iff l0).1 hok0
  obtain ⟨hL1, hW1⟩ := (Num.okd_iff l1).1 hok1
  unfold nat_DivMod.f at h
  rw [if_pos hok0, if_pos hok1] at h
  have ht0 := nat_trim.sem (Num.okd_okw hok0) (l0.length + 1) (by omega)
  have ht1 := nat_trim.sem (Num.okd_okw hok1) (l1.length + 1) (by omega)
  obtain ⟨z0, hz0⟩ : ∃ z, z = Num.nd (Num.nv l0) := ⟨_, rfl⟩
  obtain ⟨z1, hz1⟩ : ∃ z, z = Num.nd (Num.nv l1) := ⟨_, rfl⟩
  have hn0 : z0.length < 549755813888 := by
    have := Num.nd_length_le (Num.nv_lt hW0)
    rw [hz0]; omega
  have hn1 : z1.length < 549755813888 := by
    have := Num.nd_length_le (Num.nv_lt hW1)
    rw [hz1]; omega
  rw [← hz0] at ht0
  rw [← hz1] at ht1
  have HT0 := Aside0.mk ht0
  have HT1 := Aside0.mk ht1
  have HR0 := Aside0.mk hr0
  have HC0 := Aside0.mk hc0
  have HR1 := Aside0.mk hr1
  have HC1 := Aside0.mk hc1
  have HZ0 := Aside0.mk hz0
  have HZ1 := Aside0.mk hz1
  have HH := Aside0.mk h
  clear ht0 ht1 hr0 hc0 hr1 hc1 hz0 hz1 h hok0 hok1 hL0 hL1 hW0 hW1
  have hB0 : Below w.heap.size w (w.alloc (.cells #[.slice A1 l1.length c1] 23)) := (Below.refl _ w).alloc (Nat.le_refl _) _
  have bB := Boxed.new w 23 (.slice A1 l1.length c1)
  refine (callsIn_wide (n := 3)).1 ?_
  refine callsIn_of_wp_marks Try.func82 rfl trivial ?_ rfl
  simp only [Try.ntmps82, List.size_toArray, List.length_cons, List.length_nil, Nat.reduceAdd, Nat.reduceSub, Array.replicate_succ, Array.replicate_zero, List.push_toArray, List.append_toArray, List.nil_append, List.cons_append]
  refine wpIn_wide.2 ?_
  go_wp2
  have hcb0 := bB.cell
  have hsz0 : (w.alloc (.cells #[.slice A1 l1.length c1] 23)).heap.size = w.heap.size + 1 := by simp
  generalize (w.alloc (.cells #[.slice A1 l1.length c1] 23)) = w0 at hB0 bB hcb0 hsz0 ⊢
  refine wp_piece (fun a W3 => ∃ Az0 cz0 Az1 cz1, a = { tmps := (Value.slice Az0 z0.length cz0 :: Value.slice A1 l1.length c1 :: undef :: Value.pointer (some ⟨w.heap.size, 0, none⟩) :: Value.slice none 0 0 :: Value.slice none 0 0 :: Value.int .i64 0 :: undef :: undef :: undef :: undef :: undef :: undef :: Value.slice A0 l0.length c0 :: Value.slice Az0 z0.length cz0 :: Value.slice A1 l1.length c1 :: Value.slice Az1 z1.length cz1 :: undef :: undef :: undef :: undef :: undef :: undef :: undef :: undef :: undef :: undef :: undef :: undef :: undef :: undef :: undef :: undef :: undef :: undef :: undef :: undef :: undef :: undef :: undef :: undef :: undef :: undef :: undef :: undef :: undef :: undef :: undef :: undef :: undef :: undef :: undef :: undef :: undef :: undef :: undef :: undef :: undef :: undef :: undef :: undef :: undef :: undef :: undef :: undef :: undef :: undef :: undef :: undef :: []).toArray, defers := [] } ∧ Kd.R (Kd.int .u32) 37 W3 w.heap.size (fun _ => True) (.slice Az0 z0.length cz0) z0 ∧ Kd.R (Kd.int .u32) 37 W3 w.heap.size (fun _ => True) (.slice Az1 z1.length cz1) z1 ∧ Below w.heap.size w W3 ∧ Boxed W3 w.heap.size 23 (.slice Az1 z1.length cz1)) ?_ ?_
  have hlt0 : w.heap.size < w0.heap.size := bB.lt
  · go_region_with (first | (go_at_call 85; (with_reducible refine (nat_trim.calls _ _ _ l0 _ _ (Kd.C_below HR0.out hB0.drew) HC0.out HT0.out).mono ?_); rintro e w1 ⟨v0, rfl, ho0, hb0⟩; obtain ⟨Az0, cz0, hv0⟩ := Kd.R_slice ho0; subst hv0; have hB1 : Below w.heap.size w w1 := hB0.drew.trans (hb0.mono hB0.size); have bB1 : Boxed w1 w.heap.size 23 (.slice A1 l1.length c1) := (hb0.block _ hlt0).trans bB; have hcb1 := bB1.cell) | (go_at_call 85; (with_reducible refine (nat_trim.calls _ _ _ l1 _ _ (Kd.C_below HR1.out hB1) HC1.out HT1.out).mono ?_); rintro e w2 ⟨v1, rfl, ho1, hb1⟩; obtain ⟨Az1, cz1, hv1⟩ := Kd.R_slice ho1; subst hv1; have bB2 : Boxed w2 w.heap.size 23 (.slice A1 l1.length c1) := (hb1.block _ bB1.lt).trans bB1; have hcb2 := bB2.cell; have hfb2 := bB2.frozen))
    all_goals
      have hs0 : w0.drew.heap.size = w0.heap.size := rfl
      have hs1 := hb0.size
      have hs2 := hb1.size
      have R03 := Kd.R_far (p := ⟨w.heap.size, 0, none⟩) (Kd.R_mono (Kd.R_bound (Kd.R_below ho0 hb1)) (ok' := fun k => w0.heap.size ≤ k) (fun k hk => hk.2.1)) (fun k hk => by simp only; omega) (.slice Az1 z1.length cz1)
      have R13 := Kd.R_far (p := ⟨w.heap.size, 0, none⟩) (Kd.R_mono (Kd.R_bound ho1) (ok' := fun k => w1.heap.size ≤ k) (fun k hk => hk.2.1)) (fun k hk => by simp only; omega) (.slice Az1 z1.length cz1)
      have hB3 : Below w.heap.size w (w2.setCell ⟨w.heap.size, 0, none⟩ (.slice Az1 z1.length cz1)) := (hB1.trans (hb1.mono (by omega))).setCell (p := ⟨w.heap.size, 0, none⟩) (Nat.le_refl _) _
      exact ⟨_, _, _, _, rfl, Kd.R_lower (Kd.R_mono R03 (fun _ _ => trivial)) (by omega), Kd.R_lower (Kd.R_mono R13 (fun _ _ => trivial)) (by omega), hB3, bB2.set _⟩
  rintro a W3 ⟨Az0, cz0, Az1, cz1, rfl, R03, R13, hB3, bB3⟩
  clear hB0 bB hcb0 hsz0
  clear w0
  refine only_then ?_
  have hc3 := bB3.cell
  by_cases hz : Num.nv l1 = 0
  · have hl1 : z1.length = 0 := by rw [HZ1.out, hz, Num.nd_zero]; rfl
    have h := HH.out
    rw [if_pos hz] at h
    simp only [Option.some.injEq, Prod.mk.injEq] at h
    obtain ⟨rfl, rfl, rfl⟩ := h
    clear hz HH
    go_wp2
    exact ⟨_, results_tmp3 rfl _ _ _, _, _, rfl, Kd.R_nil _ _ _ _ _, Kd.V_nil _ _ _ _ _, hB3⟩
  · have hl1 : 0 < z1.length := by
      rcases Nat.eq_zero_or_pos z1.length with h0 | h0
      · exact absurd (Num.nd_eq_nil.1 (by rw [← HZ1.out]; exact List.eq_nil_of_length_eq_zero h0)) hz
      · exact h0
    have h := HH.out
    rw [if_neg hz] at h
    simp only [Option.some.injEq, Prod.mk.injEq] at h
    obtain ⟨rfl, rfl, rfl⟩ := h
    have HN := Aside0.mk hz
    have HW0 : Aside0 (Num.Ws z0) := ⟨by rw [HZ0.out]; exact Num.Ws_nd _⟩
    have HW1 : Aside0 (Num.Ws z1) := ⟨by rw [HZ1.out]; exact Num.Ws_nd _⟩
    clear hz HH
    have hl1' : ¬ (z1.length : Int) = 0 := by omega
    go_wp2_with (first | ((with_reducible refine gate_dst (N := 22) rfl ?_); refine Kd.R_make (Kd.int .u32) W3.heap.size 37 rfl (N := 22) rfl 23 _ _ rfl (z0.length : Int) rfl rfl Try.underlying23 (.int .u32 0) 4 info37 rfl (by decide) (by omega) 0 (ok := fun _ => True) (okp := fun _ => True) rfl (fun _ hk => hk) trivial (by omega) (by omega) (Below.refl _ _) (Nat.le_refl _) ?_; intro vo w4 ho4 hb4 hg4 hnew4; obtain ⟨Ao, co, hvo⟩ := Kd.R_slice ho4; subst hvo; simp only [Int.toNat_natCast, List.length_replicate] at ho4) | (go_at_call 86; refine (callsIn_wide.1 (back_in Fence.wide 0 trivial rfl _ _ _ _)).mono ?_; rintro e w5 ⟨rfl, rfl⟩))
    have hs4 := hb4.size
    have bO := ((Boxed.new w4 23 (.slice Ao z0.length co)).alloc (.cells #[.slice none 0 0] 23)).alloc (.cells #[.slice Az0 z0.length cz0] 23)
    have bR := (Boxed.new (w4.alloc (.cells #[.slice Ao z0.length co] 23)) 23 (.slice none 0 0)).alloc (.cells #[.slice Az0 z0.length cz0] 23)
    have bS := Boxed.new ((w4.alloc (.cells #[.slice Ao z0.length co] 23)).alloc (.cells #[.slice none 0 0] 23)) 23 (.slice Az0 z0.length cz0)
    rw [World.size_alloc] at bR
    rw [World.size_alloc, World.size_alloc] at bS
    have RO := ((Kd.R_alloc (Kd.R_alloc (Kd.R_alloc (Kd.R_tight rfl ho4) (.cells #[.slice Ao z0.length co] 23)) (.cells #[.slice none 0 0] 23)) (.cells #[.slice Az0 z0.length cz0] 23)))
    have hB5 : Below W3.heap.size W3 (((w4.alloc (.cells #[.slice Ao z0.length co] 23)).alloc (.cells #[.slice none 0 0] 23)).alloc (.cells #[.slice Az0 z0.length cz0] 23)) := ((hb4.alloc hs4 _).alloc (by simp; omega) _).alloc (by simp; omega) _
    have hs5 : (((w4.alloc (.cells #[.slice Ao z0.length co] 23)).alloc (.cells #[.slice none 0 0] 23)).alloc (.cells #[.slice Az0 z0.length cz0] 23)).heap.size = w4.heap.size + 3 := by simp
    have hgo : ∀ g, (Value.slice Ao z0.length co).ownBlock = some g → W3.heap.size ≤ g ∧ g < w4.heap.size := fun g hg => ⟨Kd.R_base ho4 g hg, Kd.R_lt ho4 g hg⟩
    generalize (((w4.alloc (.cells #[.slice Ao z0.length co] 23)).alloc (.cells #[.slice none 0 0] 23)).alloc (.cells #[.slice Az0 z0.length cz0] 23)) = W5 at bO bR bS RO hB5 hs5 ⊢
    have row0 := (Row.ofR R03 (Nat.le_refl _)).below hB5
    have row1 := Row.ofR R13 (Nat.le_refl _)
    clear hb4 hg4 ho4 hnew4
    refine (wpIn_wide (n := 3)).1 ?_
    refine wpIn_rangeFunc_ownG (F := Fence.wide) (n := 3) rfl (by omega) (gf := 104) (lb := #[.pointer (some ⟨w4.heap.size + 1 + 1, 0, none⟩)]) rfl trivial (enters_of Try.func104 (by kernel_rfl) rfl)
      (back_stops Fence.wide _ trivial rfl (by omega) (w4.heap.size + 1 + 1) W3.heap.size _ z0 (by omega) _ (by omega) (by omega) bS.cell row0) KB.trans (KB.putObj (by omega) (by omega)) (Below.refl _ _) (fun _ => rfl)
      (fun pre W => Below W3.heap.size W5 W ∧ Boxed W w4.heap.size 23 (.slice Ao z0.length co) ∧ Kd.R (Kd.int .u32) 37 W W3.heap.size (fun k => some k = (Value.slice Ao z0.length co).ownBlock) (.slice Ao z0.length co) (nat_DivMod.st z0 (Num.nv l1) pre).2 ∧ ∃ vr, Boxed W (w4.heap.size + 1) 23 vr ∧ Kd.V (Kd.int .u32) 37 W 0 (fun k => W5.heap.size ≤ k) vr (Num.nd (nat_DivMod.st z0 (Num.nv l1) pre).1))
      (fun _ _ _ => False)
      (OwnFrom.and (ownFrom_below (by omega) (by omega)) (OwnFrom.and (Own.from (boxed_own _ _ _) _) (OwnFrom.and (Own.from (Mem.R_own _ _ _ _ _) _) (Own.from (Mem.V_own _ _ _ _ _ _) _))))
      (fun _ _ _ _ _ hs _ _ => hs)
      ⟨Below.refl _ _, bO, by simpa [nat_DivMod.st] using RO, _, bR, by simpa [nat_DivMod.st, Num.nd_zero] using Kd.V_nil _ _ _ _ _⟩
      (fun x => { tmps := (Value.slice Az0 z0.length cz0 :: Value.slice A1 l1.length c1 :: undef :: Value.pointer (some ⟨w.heap.size, 0, none⟩) :: Value.slice none 0 0 :: Value.slice none 0 0 :: Value.int .i64 0 :: Value.pointer (some ⟨w4.heap.size, 0, none⟩) :: Value.pointer (some ⟨w4.heap.size + 1, 0, none⟩) :: Value.int .i64 (ix z0.length x : Int) :: Value.int .u32 (wd z0 x) :: undef :: undef :: Value.slice A0 l0.length c0 :: Value.slice Az0 z0.length cz0 :: Value.slice A1 l1.length c1 :: Value.slice Az1 z1.length cz1 :: Value.slice Az1 z1.length cz1 :: Value.int .i64 (z1.length : Int) :: Value.bool false :: Value.slice Az0 z0.length cz0 :: Value.int .i64 (z0.length : Int) :: Value.slice Ao z0.length co :: Value.slice Az0 z0.length cz0 :: Value.func (.func 104) #[] #[.pointer (some ⟨w4.heap.size + 1 + 1, 0, none⟩)] :: Value.int .i64 (ix z0.length x : Int) :: Value.int .u32 (wd z0 x) :: undef :: undef :: undef :: undef :: undef :: undef :: undef :: undef :: undef :: undef :: undef :: undef :: undef :: undef :: undef :: undef :: undef :: undef :: undef :: undef :: undef :: undef :: undef :: undef :: undef :: undef :: undef :: undef :: undef :: undef :: undef :: undef :: undef :: undef :: undef :: undef :: undef :: undef :: undef :: undef :: undef :: undef :: []).toArray, defers := [] }) ?assign ?body ?done ?stop
    case assign =>
      intro l x W K hK
      gi_wp2
      exact hK
    case body =>
      rintro l pre x W ⟨hB5W, bO', RO', vr, bR', VR'⟩ hlt
      have hB := hB5.trans hB5W
      have hs5W := hB5W.size
      have hx : ix z0.length x < z0.length := by unfold ix; omega
      have hw := HW0.out.getD (ix z0.length x)
      obtain ⟨Ar, cr, hvr⟩ := Kd.V_slice VR'
      obtain ⟨R, hR⟩ : ∃ s, s = (nat_DivMod.st z0 (Num.nv l1) pre).1 := ⟨_, rfl⟩
      obtain ⟨O, hO⟩ : ∃ s, s = (nat_DivMod.st z0 (Num.nv l1) pre).2 := ⟨_, rfl⟩
      rw [← hR] at VR' hvr
      rw [← hO] at RO'
      subst hvr
      have hlR := (Kd.V_reads' VR').2.2
      have hcB := (hB.cell (p := ⟨w.heap.size, 0, none⟩) bB3.lt).trans hc3
      have hcO := bO'.cell
      have hcR := bR'.cell
      have hfR := bR'.frozen
      have hsW := hB5.size
      have hsB := hB.size
      obtain ⟨u, hu⟩ : ∃ u : Nat, (u : Int) = wd z0 x := ⟨(wd z0 x).toNat, by simp only [List.getD_eq_getElem?_getD] at hw; unfold wd; omega⟩
      have hu32 : u < 4294967296 := by simp only [List.getD_eq_getElem?_getD] at hw; unfold wd at hu; omega
      obtain ⟨q, hq⟩ : ∃ q, q = ix z0.length x := ⟨_, rfl⟩
      obtain ⟨B, hBe⟩ : ∃ B, B = Num.nv l1 := ⟨_, rfl⟩
      have hB0 : B ≠ 0 := by rw [hBe]; exact HN.out
      have hRB : R < B := by rw [hR, ← hBe]; exact nat_DivMod.st_lt z0 hB0 pre
      have hzB : Num.nv z1 = B := by rw [HZ1.out, Num.nv_nd, hBe]
      have hlr : (Num.nd R).length ≤ z1.length := by
        rw [HZ1.out, ← hBe]
        exact Num.nd_len_mono (by omega)
      have hnvr : Num.nv ([(u : Int)] ++ Num.nd R) = R * 4294967296 + u := by simp only [List.cons_append, List.nil_append, Num.nv, Num.nv_nd, Int.toNat_natCast]; omega
      obtain ⟨m, hm⟩ : ∃ m, m = R * 4294967296 + u := ⟨_, rfl⟩
      have HTr : Aside0 (nat_trim.f ((Num.nd R).length + 2) ([(u : Int)] ++ Num.nd R) = some (Num.nd (R * 4294967296 + u))) := ⟨by
        rw [← hnvr]
        exact nat_trim.sem_w (by rw [List.cons_append, List.nil_append]; exact Num.Ws.cons (by omega) (by omega) (Num.Ws_nd _)) (by simp; omega) _ (by simp)⟩
      obtain ⟨L1, hL1⟩ : ∃ L, L = [(u : Int)] ++ Num.nd R := ⟨_, rfl⟩
      have HTr1 : Aside0 (nat_trim.f ((Num.nd R).length + 2) L1 = some (Num.nd m)) := ⟨by rw [hL1, hm]; exact HTr.out⟩
      have HL1 := Aside0.mk hL1
      have HM := Aside0.mk hm
      have hmB : m < 4294967296 * B := by rw [hm]; have := Nat.mul_le_mul_left 4294967296 (show R + 1 ≤ B from hRB); omega
      clear hL1 HTr hm
      rw [← hq] at hx
      rw [← hq, ← hu]
      have HU := Aside0.mk hu
      have HQ := Aside0.mk hq
      have HR' := Aside0.mk hR
      have HO' := Aside0.mk hO
      have HBE := Aside0.mk hBe
      have HZB := Aside0.mk hzB
      have HB := Aside0.mk hB
      have HRO := Aside0.mk RO'
      have HVR := Aside0.mk VR'
      have HLR := Aside0.mk hlR
      have hlr4 : (1 + (Num.nd R).length) * 4 ≤ 140737488355328 := by omega
      have HGO := Aside0.mk hgo
      clear hu hq hR hO hBe hzB hw hnvr hB RO' VR' hlR hgo row0
      have hgo := HGO
      have bBW : Boxed W w.heap.size 23 (.slice Az1 z1.length cz1) := (HB.out.block _ bB3.lt).trans bB3
      have hcRL := (bR'.alloc (.cells #[.int .u32 (u : Int)] 37)).cell
      have hst : nat_DivMod.st z0 (Num.nv l1) (pre ++ [x]) = (m % B, O.set q ((m / B : Nat) : Int)) := by
        rw [nat_DivMod.st_snoc, ← HR'.out, ← HO'.out, ← HBE.out, ← HQ.out, ← HU.out, Int.toNat_natCast, ← HM.out]
      have hend : ∀ (W' : World) (v : Value), Mem.Turn W3.heap.size (w4.heap.size + 1 + 1) W W' → Boxed W' w4.heap.size 23 (.slice Ao z0.length co) → Kd.R (Kd.int .u32) 37 W' W3.heap.size (fun k => some k = (Value.slice Ao z0.length co).ownBlock) (.slice Ao z0.length co) (O.set q ((m / B : Nat) : Int)) → Boxed W' (w4.heap.size + 1) 23 v → Kd.V (Kd.int .u32) 37 W' 0 (fun k => W5.heap.size ≤ k) v (Num.nd (m % B)) →
          KeepsFrom W5.heap.size W W' ∧ KB W3.heap.size (w4.heap.size + 1 + 1) W W' ∧ Below W3.heap.size W5 W' ∧ Boxed W' w4.heap.size 23 (.slice Ao z0.length co) ∧ Kd.R (Kd.int .u32) 37 W' W3.heap.size (fun k => some k = (Value.slice Ao z0.length co).ownBlock) (.slice Ao z0.length co) (nat_DivMod.st z0 (Num.nv l1) (pre ++ [x])).2 ∧ ∃ vr, Boxed W' (w4.heap.size + 1) 23 vr ∧ Kd.V (Kd.int .u32) 37 W' 0 (fun k => W5.heap.size ≤ k) vr (Num.nd (nat_DivMod.st z0 (Num.nv l1) (pre ++ [x])).1) := by
        intro W' v hT h1 h2 h3 h4
        rw [hst]
        exact ⟨hT.ko.from _, hT.kb, hB5W.trans hT.kb.1, h1, h2, v, h3, h4⟩
      have HEND := Aside0.mk hend
      clear hst hend
      have hbb : w.heap.size < W3.heap.size := bB3.lt
      have hWs : w4.heap.size + 1 < W.heap.size := bR'.lt
      have hsB0 : W3.heap.size ≤ W.heap.size := HB.out.size
      have hBsW : w4.heap.size + 1 + 1 < W.heap.size := by omega
      by_cases hl1e : z1.length = 1
      · have HL1E := Aside0.mk hl1e
        have ht1 : ((z1.length : Int) == 1) = true := by rw [hl1e]; rfl
        clear hl1e
        have hB32 : B < 4294967296 := by
          have := Num.nv_lt HW1.out
          rw [HZB.out, HL1E.out] at this
          exact this
        have hm64 : m < 18446744073709551616 := by omega
        have hlm : (Num.nd m).length ≤ 2 := Num.nd_length_le (k := 2) hm64
        have hsm : Aside0 (nat_Small.f 0 (Num.nd m) = some ((m : Int), true)) := ⟨by
          unfold nat_Small.f
          rw [if_pos (Num.okw_of (by omega) (Num.Ws_nd m)), Num.nv_nd, if_pos hm64]⟩
        gi_wp2_with (first | (gi_at_builtin; refine Mem.wpListIn_append_rows W.heap.size rfl (.tmp 28) (.tmp 29) 23 37 rfl Try.underlying23 info37 (.slice (some ⟨W.heap.size, 0, none⟩) 1 1) [(u : Int)] (Num.nd R) Ar (Num.nd R).length cr rfl rfl (Mem.R_lit1 W _ _) (Kd.C_alloc HLR.out _) (by simp) hlr4 ?_; intro v1 w1 hv1 hg1; rw [← HL1.out] at hv1; obtain ⟨A1', c1', hv1'⟩ := Kd.R_slice hv1; subst hv1'; have hW1 : Below W.heap.size W w1 := ((Below.refl W.heap.size W).alloc (Nat.le_refl _) _).grown hg1 (by simp) (fun k hk => by simp [Value.ownBlock] at hk; omega)) | (refine ⟨trivial, ?_⟩; gi_at_call 85; (with_reducible refine (CallsIn.inRound l (callsIn_wide.2 (nat_trim.calls _ _ _ L1 _ _ (Kd.R_reads' hv1).2.2 (Kd.R_reads' hv1).2.1 HTr1.out))).mono ?_); rintro e w2 ⟨v2, rfl, ho2, hb2⟩; obtain ⟨A2, c2, hv2⟩ := Kd.R_slice ho2; subst hv2; have hW2 : Below W.heap.size W w2 := hW1.trans (hb2.mono hW1.size); have bR2 : Boxed w2 (w4.heap.size + 1) 23 (.slice Ar (Num.nd R).length cr) := (hW2.block _ bR'.lt).trans bR'; have hcR2 := bR2.cell; have hfR2 := bR2.frozen; have bR9 := bR2.set (.slice A2 (Num.nd m).length c2); have hcR9 := bR9.cell; have bB9 : Boxed (w2.setCell ⟨w4.heap.size + 1, 0, none⟩ (.slice A2 (Num.nd m).length c2)) w.heap.size 23 (.slice Az1 z1.length cz1) := Boxed.other ((hW2.block _ bBW.lt).trans bBW) (by omega) _; have hcB9 := bB9.cell; have ho9 := Kd.R_far (p := ⟨w4.heap.size + 1, 0, none⟩) (Kd.R_mono (Kd.R_bound ho2) (ok' := fun k => w1.heap.size ≤ k) (fun k hk => hk.2.1)) (fun k hk => by have := hW1.size; have := bR'.lt; simp only; omega) (.slice A2 (Num.nd m).length c2)) | (refine ⟨trivial, ?_⟩; gi_at_call 87; (with_reducible refine (CallsIn.inRound l (callsIn_wide.2 (nat_Small.calls _ _ _ (Num.nd m) _ _ _ (Kd.R_reads' ho9).2.2 (Kd.R_reads' ho9).2.1 hsm.out))).mono ?_); rintro e w10 ⟨rfl, hb10⟩))
        have hT2 : Mem.Turn W3.heap.size (w4.heap.size + 1 + 1) W w2 := Mem.Turn.below hW2 hsB0 hBsW
        have hT9 := hT2.trans (Mem.Turn.set w2 0 (b := w4.heap.size + 1) (by omega) (by omega) (.slice A2 (Num.nd m).length c2))
        have hs9 : w2.heap.size ≤ (w2.setCell ⟨w4.heap.size + 1, 0, none⟩ (.slice A2 (Num.nd m).length c2)).heap.size := by simp [World.setCell]
        have hs2 := hW2.size
        have hT10 := hT9.trans (Mem.Turn.below hb10 (by omega) (by omega))
        have bB10 : Boxed w10 w.heap.size 23 (.slice Az1 z1.length cz1) := (hb10.block _ bB9.lt).trans bB9
        have bO9 : Boxed (w2.setCell ⟨w4.heap.size + 1, 0, none⟩ (.slice A2 (Num.nd m).length c2)) w4.heap.size 23 (.slice Ao z0.length co) := Mem.boxed_set ((hW2.block _ bO'.lt).trans bO') 0 (by omega) _
        have bO10 : Boxed w10 w4.heap.size 23 (.slice Ao z0.length co) := (hb10.block _ bO9.lt).trans bO9
        have bR10 : Boxed w10 (w4.heap.size + 1) 23 (.slice A2 (Num.nd m).length c2) := (hb10.block _ bR9.lt).trans bR9
        have RO9 := Kd.R_far (p := ⟨w4.heap.size + 1, 0, none⟩) (Kd.R_below HRO.out hW2) (fun k hk => by have := (hgo.out k hk.symm).2; simp only; omega) (.slice A2 (Num.nd m).length c2)
        have RO10 := Kd.R_below RO9 hb10
        have row10 := (((row1.below HB.out).below (hT9.kb.1)).below (hb10.mono (by omega)))
        have hOl := (Kd.R_reads' RO10).1
        obtain ⟨go, cap, hge, hg1, hg2, _⟩ := Kd.R_form RO10 (by omega)
        rw [← hOl] at hge
        obtain ⟨hAo, hco⟩ : Ao = some ⟨go, 0, none⟩ ∧ co = cap := by
          injection hge with e1 e2 e3
          exact ⟨e1, e3⟩
        have hgo4 := (hgo.out go (by rw [hAo]; rfl)).2
        subst hAo
        subst hco
        obtain ⟨hcq, hfq⟩ := Kd.R_celln 0 RO10 (q : Int) (by omega) (by omega)
        have hput := (Kd.R_putg (Kd.R_drew RO10) (q : Int) ((m / B : Nat) : Int)).1
        simp only [Int.toNat_natCast] at hcq hfq hput
        have hcO10 := bO10.cell
        have hcB10 := bB10.cell
        rcases row10 with ⟨hnil, _⟩ | ⟨b1, off1, cap1, e, hb1, hcs1⟩
        · exfalso
          have := HL1E.out
          injection hnil with _ e2 _
          omega
        · obtain ⟨hAz1, hcz1⟩ : Az1 = some ⟨b1, off1, none⟩ ∧ cz1 = cap1 := by
            injection e with e1 e2 e3
            exact ⟨e1, e3⟩
          subst hAz1
          subst hcz1
          have hzv : z1[0]?.getD 0 = (B : Int) := by
            have h1 := HZB.out
            have h2 := HL1E.out
            match z1, h2 with
            | [b], _ =>
              have := HW1.out.head
              simp only [Num.nv] at h1
              simp
              omega
          have hcz := hcs1 0 (by omega)
          rw [hzv, Nat.add_zero] at hcz
          have hBpos : (1 : Int) ≤ (B : Int) := by omega
          have hBne : ¬ ((B : Int) = 0) := by omega
          have hq0 : 0 ≤ (q : Int) := by omega
          have hqz : (q : Int) < (z0.length : Int) := by omega
          have h1z : (0 : Int) < (z1.length : Int) := by omega
          have hHR := Aside0.mk RO10
          clear RO10 RO9 hsm hcs1
          have hwB : IntKind.u64.wrap (B : Int) = (B : Int) := u64_nat B (by omega)
          have hB0b : ((B : Int) == 0) = false := by simpa using hB0
          have hlo10 : W3.heap.size ≤ go := (hgo.out go rfl).1
          refine wpIn_piece _ (nat_DivMod.reg12 l w.heap.size w4.heap.size (w4.heap.size + 1) q m B b1 off1 go z1.length cz1 z0.length co w10 _ hcB10 hcO10 hcz hcq hfq hB0 hB32 hmB hqz h1z) ?_
          rintro a W12 ⟨x40, x41, x42, x43, x44, x45, x46, x47, x48, x49, rfl, hW12⟩
          have hT12 : Mem.Turn W3.heap.size (w4.heap.size + 1 + 1) W W12 := by rw [hW12]; exact (hT10.trans (Mem.Turn.drew _ _ w10)).trans (Mem.Turn.set w10.drew q (b := go) (by omega) (by omega) _)
          have bB12 : Boxed W12 w.heap.size 23 (.slice (some ⟨b1, off1, none⟩) z1.length cz1) := by rw [hW12]; exact Mem.boxed_set (W := w10.drew) bB10 q (by omega) _
          have bO12 : Boxed W12 w4.heap.size 23 (.slice (some ⟨go, 0, none⟩) z0.length co) := by rw [hW12]; exact Mem.boxed_set (W := w10.drew) bO10 q (by omega) _
          have bR12 : Boxed W12 (w4.heap.size + 1) 23 (.slice A2 (Num.nd m).length c2) := by rw [hW12]; exact Mem.boxed_set (W := w10.drew) bR10 q (by omega) _
          have R12 := hput
          rw [← hW12] at R12
          have hcz12 : W12.cell? ⟨b1, off1, none⟩ = some (.int .u32 (B : Int)) := by rw [hW12, Mem.cell_set _ (by omega)]; exact hcz
          have hs12 : W.heap.size ≤ W12.heap.size := hT12.ko.size
          clear hput hW12 hcz hcq hfq hcO10 hcB10 hHR
          have hcB12 := bB12.cell
          have hcR12 := bR12.cell
          have hfR12 := bR12.frozen
          have hmm : m % B < 18446744073709551616 := Nat.lt_trans (Nat.mod_lt _ (by omega)) (by omega)
          obtain ⟨kf, hkf⟩ := nat_Of.ev (m % B) hmm
          have hof : Aside0 (nat_Of.f kf ((m : Int) % (B : Int)) = some (Num.nd (m % B))) := ⟨by rw [← Int.natCast_emod]; exact hkf kf (Nat.le_refl _)⟩
          have hrem : IntKind.u64.wrap ((m : Int) % (B : Int)) = (m : Int) % (B : Int) := by rw [← Int.natCast_emod]; exact u64_nat _ hmm
          clear hkf
          gi_wp2_with (refine ⟨trivial, ?_⟩; gi_at_call 67; (with_reducible refine (CallsIn.inRound l (callsIn_wide.2 (nat_Of.calls _ _ _ _ hof.out))).mono ?_); rintro e w13 ⟨v3, rfl, ho3, hb3⟩; obtain ⟨A3, c3, hv3⟩ := Kd.R_slice ho3; subst hv3; have bR13 : Boxed w13 (w4.heap.size + 1) 23 (.slice A2 (Num.nd m).length c2) := (hb3.block _ bR12.lt).trans bR12; have hcR13 := bR13.cell; have hfR13 := bR13.frozen)
          have hT13 := hT12.trans (Mem.Turn.below hb3 (by omega) (by omega))
          have bO13 : Boxed w13 w4.heap.size 23 (.slice (some ⟨go, 0, none⟩) z0.length co) := (hb3.block _ bO12.lt).trans bO12
          have R13' := Kd.R_below R12 hb3
          refine HEND.out _ (.slice A3 (Num.nd (m % B)).length c3) (hT13.trans (Mem.Turn.set w13 0 (b := w4.heap.size + 1) (by omega) (by omega) _)) (Mem.boxed_set bO13 0 (by omega) _) (Kd.R_far R13' (p := ⟨w4.heap.size + 1, 0, none⟩) (fun k hk => by have := (hgo.out k hk.symm).2; simp only; omega) _) (bR13.set _) ?_
          refine Kd.V_mono (Kd.R_V (Kd.R_far (p := ⟨w4.heap.size + 1, 0, none⟩) (Kd.R_mono (Kd.R_bound ho3) (ok' := fun k => W12.heap.size ≤ k) (fun k hk => hk.2.1)) (fun k hk => by simp only; omega) _)) (fun k hk => by omega)
      · have ht1 : ((z1.length : Int) == 1) = false := by
          have : ¬ (z1.length : Int) = 1 := by omega
          simpa using this
        have hdg := nat_digit.ev HW1.out (by omega) (by rw [HZB.out]; exact hB0) m (by rw [HZB.out]; exact hmB)
        rw [HZB.out] at hdg
        obtain ⟨kd, hkd⟩ := hdg
        have HDG : Aside0 (nat_digit.f kd (Num.nd m) z1 = some (((m / B : Nat) : Int), Num.nd (m % B))) := ⟨hkd kd (Nat.le_refl _)⟩
        have hlm : (Num.nd m).length ≤ z1.length + 1 := Num.nd_length_le (by
          have h1 := Num.nv_lt HW1.out
          rw [HZB.out] at h1
          rw [Nat.mul_add, Nat.pow_add, Nat.mul_comm (2 ^ (32 * z1.length))]
          exact Nat.lt_of_lt_of_le hmB (Nat.mul_le_mul_left 4294967296 (Nat.le_of_lt h1)))
        clear hl1e hkd
        gi_wp2_with (first | (gi_at_builtin; refine Mem.wpListIn_append_rows W.heap.size rfl (.tmp 28) (.tmp 29) 23 37 rfl Try.underlying23 info37 (.slice (some ⟨W.heap.size, 0, none⟩) 1 1) [(u : Int)] (Num.nd R) Ar (Num.nd R).length cr rfl rfl (Mem.R_lit1 W _ _) (Kd.C_alloc HLR.out _) (by simp) hlr4 ?_; intro v1 w1 hv1 hg1; rw [← HL1.out] at hv1; obtain ⟨A1', c1', hv1'⟩ := Kd.R_slice hv1; subst hv1'; have hW1 : Below W.heap.size W w1 := ((Below.refl W.heap.size W).alloc (Nat.le_refl _) _).grown hg1 (by simp) (fun k hk => by simp [Value.ownBlock] at hk; omega)) | (refine ⟨trivial, ?_⟩; gi_at_call 85; (with_reducible refine (CallsIn.inRound l (callsIn_wide.2 (nat_trim.calls _ _ _ L1 _ _ (Kd.R_reads' hv1).2.2 (Kd.R_reads' hv1).2.1 HTr1.out))).mono ?_); rintro e w2 ⟨v2, rfl, ho2, hb2⟩; obtain ⟨A2, c2, hv2⟩ := Kd.R_slice ho2; subst hv2; have hW2 : Below W.heap.size W w2 := hW1.trans (hb2.mono hW1.size); have bR2 : Boxed w2 (w4.heap.size + 1) 23 (.slice Ar (Num.nd R).length cr) := (hW2.block _ bR'.lt).trans bR'; have hcR2 := bR2.cell; have hfR2 := bR2.frozen; have bR9 := bR2.set (.slice A2 (Num.nd m).length c2); have hcR9 := bR9.cell; have bB9 : Boxed (w2.setCell ⟨w4.heap.size + 1, 0, none⟩ (.slice A2 (Num.nd m).length c2)) w.heap.size 23 (.slice Az1 z1.length cz1) := Boxed.other ((hW2.block _ bBW.lt).trans bBW) (by omega) _; have hcB9 := bB9.cell; have ho9 := Kd.R_far (p := ⟨w4.heap.size + 1, 0, none⟩) (Kd.R_mono (Kd.R_bound ho2) (ok' := fun k => w1.heap.size ≤ k) (fun k hk => hk.2.1)) (fun k hk => by have := hW1.size; have := bR'.lt; simp only; omega) (.slice A2 (Num.nd m).length c2)))
        have hT2 : Mem.Turn W3.heap.size (w4.heap.size + 1 + 1) W w2 := Mem.Turn.below hW2 hsB0 hBsW
        have hT9 := hT2.trans (Mem.Turn.set w2 0 (b := w4.heap.size + 1) (by omega) (by omega) (.slice A2 (Num.nd m).length c2))
        have hs9 : w2.heap.size ≤ (w2.setCell ⟨w4.heap.size + 1, 0, none⟩ (.slice A2 (Num.nd m).length c2)).heap.size := by simp [World.setCell]
        have hs2 := hW2.size
        have hsw1 := hW1.size
        have bO9 : Boxed (w2.setCell ⟨w4.heap.size + 1, 0, none⟩ (.slice A2 (Num.nd m).length c2)) w4.heap.size 23 (.slice Ao z0.length co) := Mem.boxed_set ((hW2.block _ bO'.lt).trans bO') 0 (by omega) _
        have RO9 := Kd.R_far (p := ⟨w4.heap.size + 1, 0, none⟩) (Kd.R_below HRO.out hW2) (fun k hk => by have := (hgo.out k hk.symm).2; simp only; omega) (.slice A2 (Num.nd m).length c2)
        have hC1 : Kd.C (Kd.int .u32) (w2.setCell ⟨w4.heap.size + 1, 0, none⟩ (.slice A2 (Num.nd m).length c2)) Az1 z1.length z1 := Kd.C_below (Kd.R_reads' R13).2.2 (HB.out.trans hT9.kb.1)
        have hV9 := Kd.V_mono (Kd.R_V (base' := (w2.setCell ⟨w4.heap.size + 1, 0, none⟩ (.slice A2 (Num.nd m).length c2)).heap.size) ho9) (ok' := fun k => W5.heap.size ≤ k) (fun k hk => Nat.le_trans (by omega) hk)
        generalize (w2.setCell ⟨w4.heap.size + 1, 0, none⟩ (.slice A2 (Num.nd m).length c2)) = W9 at hT9 hs9 bR9 hcR9 bB9 hcB9 ho9 bO9 RO9 hC1 hV9 ⊢
        have hOl := (Kd.R_reads' RO9).1
        obtain ⟨go, cap, hge, hg1, hg2, _⟩ := Kd.R_form RO9 (by omega)
        rw [← hOl] at hge
        obtain ⟨hAo, hco⟩ : Ao = some ⟨go, 0, none⟩ ∧ co = cap := by
          injection hge with e1 e2 e3
          exact ⟨e1, e3⟩
        have hgo4 := (hgo.out go (by rw [hAo]; rfl)).2
        have hlo9 : W3.heap.size ≤ go := (hgo.out go (by rw [hAo]; rfl)).1
        subst hAo
        subst hco
        obtain ⟨hcq, hfq⟩ := Kd.R_celln 0 RO9 (q : Int) (by omega) (by omega)
        simp only [Int.toNat_natCast] at hcq hfq
        refine wpIn_piece _ (nat_DivMod.reg14 l w.heap.size w4.heap.size (w4.heap.size + 1) q m B W5.heap.size go cz1 z0.length co c2 kd Az1 A2 z1 W9 _ bB9.cell bO9.cell bR9.cell bR9.frozen hC1 (Kd.R_reads' R13).2.1 hV9 hcq hfq (by omega) (by omega) bO9.lt bB9.lt bR9.lt (by omega) (by omega) HDG.out) ?_
        rintro a W12 ⟨x57, x58, x59, x60, x61, x62, x63, x64, x65, v1, w10, rfl, hW12, hb10, hv10⟩
        have hs10 := hb10.size
        have RO10 := (Kd.R_putg (Kd.R_below RO9 hb10) (q : Int) ((m / B : Nat) : Int)).1
        simp only [Int.toNat_natCast] at RO10
        have bO10 : Boxed w10 w4.heap.size 23 (.slice (some ⟨go, 0, none⟩) z0.length co) := (hb10.block _ bO9.lt).trans bO9
        have bR10 : Boxed w10 (w4.heap.size + 1) 23 (.slice A2 (Num.nd m).length c2) := (hb10.block _ bR9.lt).trans bR9
        have hT10 := (hT9.trans (Mem.Turn.below hb10 (by omega) (by omega))).trans (Mem.Turn.set w10 q (b := go) (by omega) (by omega) (.int .u32 ((m / B : Nat) : Int)))
        have bO11 := Mem.boxed_set bO10 q (b := go) (by omega) (.int .u32 ((m / B : Nat) : Int))
        have bR11 := Mem.boxed_set bR10 q (b := go) (by omega) (.int .u32 ((m / B : Nat) : Int))
        have hv11 := Kd.V_far (p := ⟨go, q, none⟩) hv10 (fun k hk => by simp only; omega) (.int .u32 ((m / B : Nat) : Int))
        rw [hW12]
        refine HEND.out _ v1 (hT10.trans (Mem.Turn.set _ 0 (b := w4.heap.size + 1) (by omega) (by omega) _)) (Mem.boxed_set bO11 0 (by omega) _) (Kd.R_far RO10 (p := ⟨w4.heap.size + 1, 0, none⟩) (fun k hk => by have := (hgo.out k hk.symm).2; simp only; omega) _) (bR11.set _) (Kd.V_far (p := ⟨w4.heap.size + 1, 0, none⟩) hv11 (fun k hk => by simp only; omega) _)
    case done =>
      rintro D ys W hD rfl ⟨hB5W, bO', RO', vr, bR', VR'⟩ hK
      have hB := hB5.trans hB5W
      obtain ⟨qs, hq1, hq2, hq3, hq4⟩ := nat_DivMod.st_range z0 HW0.out HN.out z0.length (Nat.le_refl _)
      have hnz : Num.nv z0 = Num.nv l0 := by rw [HZ0.out, Num.nv_nd]
      rw [Nat.sub_self, List.drop_zero, hnz] at hq3 hq4
      rw [List.replicate_zero, List.nil_append] at hq4
      rw [hq4] at RO' VR'
      simp only at RO' VR'
      obtain ⟨Avr, cvr, hvr⟩ := Kd.V_slice VR'
      subst hvr
      obtain ⟨kt, hkt⟩ := nat_trim.ev hq2 (by rw [hq1]; omega)
      rw [hq3] at hkt
      have HT15 : Aside0 (nat_trim.f kt qs = some (Num.nd (Num.nv l0 / Num.nv l1))) := ⟨hkt kt (Nat.le_refl _)⟩
      have hRO := (Kd.R_reads' RO').2.2
      have hRc := (Kd.R_reads' RO').2.1
      rw [← hq1] at hRc
      have HRO := Aside0.mk hRO
      have HRC := Aside0.mk hRc
      have HVR := Aside0.mk VR'
      have HB := Aside0.mk hB
      have HB3 := Aside0.mk hB3
      have hcO := bO'.cell
      have hcR := bR'.cell
      rw [← hq1] at hcO
      have HK := Aside0.mk hK
      clear hq1 hq2 hq3 hq4 hkt hRO hRc RO' VR' hB HZ0 row0 row1 RO R03 R13 hK
      gi_wp2
      go_wp2
      refine wp_piece (fun a W3' => ∃ At nt ct, a = { tmps := (Value.slice Az0 z0.length cz0 :: Value.slice A1 l1.length c1 :: undef :: Value.pointer (some ⟨w.heap.size, 0, none⟩) :: Value.slice At nt ct :: Value.slice Avr (Num.nd (Num.nv l0 % Num.nv l1)).length cvr :: Value.int .i64 0 :: Value.pointer (some ⟨w4.heap.size, 0, none⟩) :: Value.pointer (some ⟨w4.heap.size + 1, 0, none⟩) :: undef :: undef :: undef :: undef :: Value.slice A0 l0.length c0 :: Value.slice Az0 z0.length cz0 :: Value.slice A1 l1.length c1 :: Value.slice Az1 z1.length cz1 :: Value.slice Az1 z1.length cz1 :: Value.int .i64 (z1.length : Int) :: Value.bool false :: Value.slice Az0 z0.length cz0 :: Value.int .i64 (z0.length : Int) :: Value.slice Ao z0.length co :: Value.slice Az0 z0.length cz0 :: Value.func (.func 104) #[] #[.pointer (some ⟨w4.heap.size + 1 + 1, 0, none⟩)] :: undef :: undef :: undef :: undef :: undef :: undef :: undef :: undef :: undef :: undef :: undef :: undef :: undef :: undef :: undef :: undef :: undef :: undef :: undef :: undef :: undef :: undef :: undef :: undef :: undef :: undef :: undef :: undef :: undef :: undef :: undef :: undef :: undef :: undef :: undef :: undef :: undef :: undef :: undef :: undef :: undef :: Value.slice Ao qs.length co :: Value.slice At nt ct :: Value.slice Avr (Num.nd (Num.nv l0 % Num.nv l1)).length cvr :: []).toArray, defers := [{ target := .collected D, args := #[] }] } ∧ Kd.R (Kd.int .u32) 37 W3' W.heap.size (fun _ => True) (.slice At nt ct) (Num.nd (Num.nv l0 / Num.nv l1)) ∧ Below W.heap.size W W3') ?_ ?_
      · go_region_with (go_at_call 85; (with_reducible refine (nat_trim.calls _ _ _ qs _ _ (Kd.C_below HRO.out (Below.drew (Below.refl _ W))) HRC.out HT15.out).mono ?_); rintro e w15 ⟨v15, rfl, ho15, hb15⟩; obtain ⟨At, ct, hvt⟩ := Kd.R_slice ho15; subst hvt; have hcR15 := (hb15.cell (p := ⟨w4.heap.size + 1, 0, none⟩) bR'.lt).trans hcR)
        all_goals exact ⟨_, _, _, rfl, ho15, (Below.drew (Below.refl _ W)).trans hb15⟩
      rintro a W15 ⟨At, nt, ct, rfl, ho15, hb15⟩
      refine only_then ?_
      have hK15 : W15.heap[D]? = some (.deferred (some [])) := (hb15.block D (Array.getElem?_eq_some_iff.1 HK.out).1).trans HK.out
      go_wp2
      have hs15 := hb15.size
      have hsB := HB.out.size
      have hsB3 := HB3.out.size
      have hsW5 := hB5W.size
      have hs35 := hB5.size
      refine ⟨(by intro e; cases e), .inl ⟨D, W15.putObj D (.deferred none), rfl, run_takeDeferred hK15, ?_⟩⟩
      refine ⟨_, results_tmp3 rfl _ _ _, _, _, rfl, ?_, ?_, ?_⟩
      · exact (Mem.R_own (β := Unit) 37 w.heap.size _ _ (fun _ => Num.nd (Num.nv l0 / Num.nv l1))).putObj (s := ()) _ (Kd.R_lower (Kd.R_mono (Kd.R_bound ho15) (ok' := fun k => w.heap.size ≤ k) (fun k hk => Nat.le_trans (by omega) hk.2.1)) (by omega)) hK15 rfl
      · exact Mem.V_put (Kd.V_mono (Kd.V_elder' HVR.out (fun k hk => Kd.R_base ho15 k hk) hb15) (fun k hk => ⟨by omega, hk.2⟩)) hK15 rfl _
      · exact ((HB3.out.trans (HB.out.mono hsB3)).trans (hb15.mono (by omega))).trans (belowK_b (w := W5) (by omega) W15 D _ _ hD hK15 rfl rfl)
    case stop =>
      rintro D c pre W _ _ h _
      exact h.elim

end Go.Proofs.Ytjpkljkkcbaohaa.PR

end
section
namespace Go.Proofs.Ytjpkljkkcbaohaa.PR
open Go.RowKit Go.Proofs.YtjpkljkkcbaohaaW.PrintWords Go.Proofs.YtjpkljkkcbaohaaW.PrintLast Go.Proofs.YtjpkljkkcbaohaaW.PrintMore
attribute [local go_sem] max2_int min2_int max_two min_two max_three min_three max_four min_four   -- for this text's walks alone
set_option linter.unusedVariables false
set_option linter.unusedSimpArgs false

/-! ### nat_Mul: function 78 -/
mutual
def nat_Mul.l0 : Nat → List Int → List Int → List Int → Int → Int → Option (List Int)
  | 0, _, _, _, _, _ => none
  | k + 1, x1, x5, x17, x18, x19 => if x19 < x18 then (if 0 ≤ x19 then (if x19 < (x17.length : Int) then (nat_Mul.l1 k x1 x5 x19 (rd x17 x19) 0 x17 x18 x19 x1 (x1.length : Int) 0) else (none)) else (none)) else ((nat_trim.f k x5).bind fun t265 => (some t265))
def nat_Mul.l1 : Nat → List Int → List Int → Int → Int → Int → List Int → Int → Int → List Int → Int → Int → Option (List Int)
  | 0, _, _, _, _, _, _, _, _, _, _, _ => none
  | k + 1, x1, x5, x6, x7, x8, x17, x18, x19, x24, x25, x26 => if x26 < x25 then (if 0 ≤ x26 then (if x26 < (x24.length : Int) then (if 0 ≤ (wrap64 (x6 + x26)) then (if (wrap64 (x6 + x26)) < (x5.length : Int) then (nat_Mul.l1 k x1 (x5.set ((wrap64 (x6 + x26)) : Int).toNat ((IntKind.u64.wrap (x8 + (IntKind.u64.wrap ((IntKind.u64.wrap ((IntKind.u64.wrap (x7)) * (IntKind.u64.wrap (rd x24 x26)))) + (IntKind.u64.wrap (rd x5 (wrap64 (x6 + x26)))))))) % 4294967296)) x6 x7 ((IntKind.u64.wrap (x8 + (IntKind.u64.wrap ((IntKind.u64.wrap ((IntKind.u64.wrap (x7)) * (IntKind.u64.wrap (rd x24 x26)))) + (IntKind.u64.wrap (rd x5 (wrap64 (x6 + x26)))))))) / 4294967296) x17 x18 x19 x24 x25 (wrap64 (x26 + 1))) else (none)) else (none)) else (none)) else (none)) else (if 0 ≤ (wrap64 (x6 + (x1.length : Int))) then (if (wrap64 (x6 + (x1.length : Int))) < (x5.length : Int) then (nat_Mul.l0 k x1 (x5.set ((wrap64 (x6 + (x1.length : Int))) : Int).toNat ((x8) % 4294967296)) x17 x18 (wrap64 (x19 + 1))) else (none)) else (none))
end
def nat_Mul.f (k : Nat) (l0 : List Int) (l1 : List Int) : Option (List Int) := if 0 ≤ (wrap64 ((l0.length : Int) + (l1.length : Int))) then (if (wrap64 ((l0.length : Int) + (l1.length : Int)) : Int).toNat ≤ 70368744177664 then (nat_Mul.l0 k l1 (List.replicate (wrap64 ((l0.length : Int) + (l1.length : Int)) : Int).toNat 0) l0 (l0.length : Int) 0) else (none)) else (none)
theorem nat_Mul.mono_l : ∀ k, (∀ y0 y1 y2 y3 y4, LeO (nat_Mul.l0 k y0 y1 y2 y3 y4) (nat_Mul.l0 (k + 1) y0 y1 y2 y3 y4)) ∧ (∀ y0 y1 y2 y3 y4 y5 y6 y7 y8 y9 y10, LeO (nat_Mul.l1 k y0 y1 y2 y3 y4 y5 y6 y7 y8 y9 y10) (nat_Mul.l1 (k + 1) y0 y1 y2 y3 y4 y5 y6 y7 y8 y9 y10))
  | 0 => ⟨fun _ _ _ _ _ r h => by simp [nat_Mul.l0] at h, fun _ _ _ _ _ _ _ _ _ _ _ r h => by simp [nat_Mul.l1] at h⟩
  | k + 1 => by
    obtain ⟨ih0, ih1⟩ := nat_Mul.mono_l k
    refine ⟨?_, ?_⟩
    · intro y0 y1 y2 y3 y4
      unfold nat_Mul.l0
      repeat' first
      | (with_reducible exact ih0 _ _ _ _ _)
      | (with_reducible exact ih1 _ _ _ _ _ _ _ _ _ _ _)
      | (with_reducible exact nat_trim.mono _ _)
      | (with_reducible exact LeO.refl _)
      | (with_reducible exact LeO.none _)
      | (with_reducible refine LeO.ite ?_ ?_)
      | (with_reducible refine LeO.bind ?_ (fun _ => ?_))
      | exact ih0 _ _ _ _ _
      | exact ih1 _ _ _ _ _ _ _ _ _ _ _
      | exact nat_trim.mono _ _
      | exact LeO.none _
      | refine LeO.ite ?_ ?_
      | refine LeO.bind ?_ (fun _ => ?_)
    · intro y0 y1 y2 y3 y4 y5 y6 y7 y8 y9 y10
      unfold nat_Mul.l1
      repeat' first
      | (with_reducible exact ih0 _ _ _ _ _)
      | (with_reducible exact ih1 _ _ _ _ _ _ _ _ _ _ _)
      | (with_reducible exact nat_trim.mono _ _)
      | (with_reducible exact LeO.refl _)
      | (with_reducible exact LeO.none _)
      | (with_reducible refine LeO.ite ?_ ?_)
      | (with_reducible refine LeO.bind ?_ (fun _ => ?_))
      | exact ih0 _ _ _ _ _
      | exact ih1 _ _ _ _ _ _ _ _ _ _ _
      | exact nat_trim.mono _ _
      | exact LeO.none _
      | refine LeO.ite ?_ ?_
      | refine LeO.bind ?_ (fun _ => ?_)
theorem nat_Mul.mono : ∀ a0 a1 k, LeO (nat_Mul.f k a0 a1) (nat_Mul.f (k + 1) a0 a1) := by
  intro a0 a1 k
  obtain ⟨ih0, ih1⟩ := nat_Mul.mono_l k
  unfold nat_Mul.f
  repeat' first
      | (with_reducible exact ih0 _ _ _ _ _)
      | (with_reducible exact ih1 _ _ _ _ _ _ _ _ _ _ _)
      | (with_reducible exact nat_trim.mono _ _)
      | (with_reducible exact LeO.refl _)
      | (with_reducible exact LeO.none _)
      | (with_reducible refine LeO.ite ?_ ?_)
      | (with_reducible refine LeO.bind ?_ (fun _ => ?_))
      | exact ih0 _ _ _ _ _
      | exact ih1 _ _ _ _ _ _ _ _ _ _ _
      | exact nat_trim.mono _ _
      | exact LeO.none _
      | refine LeO.ite ?_ ?_
      | refine LeO.bind ?_ (fun _ => ?_)
set_option maxHeartbeats 8000000 in
set_option maxRecDepth 100000 in
theorem nat_Mul.calls (k : Nat) (A0 : Option Addr) (c0 : Nat) (l0 : List Int) (A1 : Option Addr) (c1 : Nat) (l1 : List Int) (r : List Int) (w : World) (hr0 : Kd.C (Kd.int .u32) w A0 l0.length l0) (hc0 : l0.length ≤ c0) (hr1 : Kd.C (Kd.int .u32) w A1 l1.length l1) (hc1 : l1.length ≤ c1) (h : nat_Mul.f k l0 l1 = some r) :
    Calls Try.prog 78 #[.slice A0 l0.length c0, .slice A1 l1.length c1] w fun e w' => ∃ v0_ : Value, e = .returned (v0_) ∧ Kd.R (Kd.int .u32) 37 w' w.heap.size (fun _ => True) v0_ r ∧ Below w.heap.size w w' := by
  have HR0 := Aside0.mk hr0
  have HC0 := Aside0.mk hc0
  clear hr0 hc0
  have HR1 := Aside0.mk hr1
  have HC1 := Aside0.mk hc1
  clear hr1 hc1
  have HB := Aside0.mk (Below.refl w.heap.size w)
  have H : (if 0 ≤ (wrap64 ((l0.length : Int) + (l1.length : Int))) then (if (wrap64 ((l0.length : Int) + (l1.length : Int)) : Int).toNat ≤ 70368744177664 then (nat_Mul.l0 k l1 (List.replicate (wrap64 ((l0.length : Int) + (l1.length : Int)) : Int).toNat 0) l0 (l0.length : Int) 0) else (none)) else (none)) = some r := h
  clear h
  obtain ⟨ji3, hji3⟩ : ∃ j_ : Int, (wrap64 ((l0.length : Int) + (l1.length : Int))) = j_ := ⟨_, rfl⟩
  replace H : (if 0 ≤ (ji3) then (if (ji3 : Int).toNat ≤ 70368744177664 then (nat_Mul.l0 k l1 (List.replicate (ji3 : Int).toNat 0) l0 (l0.length : Int) 0) else (none)) else (none)) = some r := by first | (rw [hji3] at H; exact H) | (simp only [hji3] at H ⊢; exact H)
  have hji3w : (IntKind.i64.wrap ((l0.length : Int) + (l1.length : Int))) = ji3 := (i64_w _).trans hji3
  by_cases c4 : 0 ≤ (ji3)
  · rw [if_pos c4] at H
    have c4b0 := eq_true c4
    have c4b1 : decide (0 ≤ (ji3)) = true := decide_eq_true c4
    clear c4
    by_cases c5 : (ji3 : Int).toNat ≤ 70368744177664
    · rw [if_pos c5] at H
      have c5b0 := eq_true c5
      have c5b1 : decide ((ji3 : Int).toNat ≤ 70368744177664) = true := decide_eq_true c5
      clear c5
      obtain ⟨y262, hy262⟩ : ∃ y_ : List Int, y_ = (List.replicate (ji3 : Int).toNat 0) := ⟨_, rfl⟩
      replace H : (nat_Mul.l0 k l1 y262 l0 (l0.length : Int) 0) = some r := by first | (rw [hy262]; with_reducible exact H) | (have H2_ := (Option.bind_some _ _).symm.trans H; rw [hy262]; with_reducible exact H2_) | (have H2_ := (Option.bind_some _ _).symm.trans H; with_reducible exact H2_) | with_reducible exact H | (rw [hy262]; exact H) | exact H
      have Ny262 := Aside0.mk hy262
      clear hy262
      have H' := Aside0.mk H
      clear H
      go_enter Try.func78, Try.ntmps78
      go_wp2_with (first | ((with_reducible refine gate_dst (N := 16) rfl ?_); refine Kd.R_make (Kd.int .u32) _ 37 rfl (N := 16) rfl 23 _ _ rfl ji3 rfl rfl Try.underlying23 (.int .u32 0) 4 info37 rfl (by decide) (by omega) 0 (ok := fun _ => True) (okp := fun _ => True) rfl (fun _ hk => hk) trivial (of_decide_eq_true (by first | (with_reducible assumption) | assumption)) (Nat.le_trans (Nat.mul_le_mul_right _ (of_decide_eq_true (by first | (with_reducible assumption) | assumption) : ji3.toNat ≤ 70368744177664)) (by omega)) (Below.refl _ _) (Nat.le_refl _) ?_; intro v263 w6 ho7 hb hg_ hnew_; clear hg_ hnew_; (first | rw [← Ny262.out] at ho7 | (simp only [Int.reduceToNat] at ho7; rw [← Ny262.out] at ho7)); have n0_ := Aside0.mk (Kd.R_lower ho7 (below_size (by repeat (first | (with_reducible first | exact HB.out | apply below_alloc | apply pw_below_drewN | apply below_drew1) | exact HB.out)))); have n1_ := Aside0.mk (below_step (by repeat (first | (with_reducible first | exact HB.out | apply below_alloc | apply pw_below_drewN | apply below_drew1) | exact HB.out)) hb); clear HB; have HO264 := n0_; have HB := n1_; clear n0_ n1_; clear hb ho7))
      go_loopg [19] k (fun kq v19 w' => ∃ (x5_1 : List Int) (x19_1 : Int), v19 = .int .i64 x19_1 ∧ Aside0 (nat_Mul.l0 kq l1 x5_1 l0 (l0.length : Int) x19_1 = some r) ∧ Aside0 (kq ≤ k) ∧ Aside0 (Kd.R (Kd.int .u32) 37 w' w.heap.size (fun _ => True) v263 x5_1) ∧ Aside0 (Below w.heap.size w w'))
      case atStart => exact ⟨(y262), (0), (by first | rfl | (simp; done) | (simp [*]; done)), H', ⟨Nat.le_refl _⟩, ⟨by (with_reducible repeat (first | apply Kd.R_alloc | apply Kd.R_drewN | apply Kd.R_drew)); exact HO264.out⟩, ⟨by repeat (first | (with_reducible first | exact HB.out | apply below_alloc | apply pw_below_drewN | apply below_drew1) | exact HB.out)⟩⟩
      case round =>
        clear H'
        try clear c1
        try clear p2
        try clear c4
        try clear c4b0
        try clear c4b1
        try clear c5
        try clear c5b0
        try clear c5b1
        try clear p6
        try clear c7
        obtain ⟨x5_1, x19_1, rfl, HA, HK1, HO_5, HB⟩ := hrel
        cases gk with
        | zero => exact absurd HA.out (by simp [nat_Mul.l0])
        | succ k1 =>
          have H := HA.out
          clear HA
          simp only [nat_Mul.l0] at H
          by_cases c8 : x19_1 < (l0.length : Int)
          · rw [if_pos c8] at H
            have c8b0 : decide (x19_1 < (l0.length : Int)) = true := decide_eq_true c8
            clear c8
            by_cases c9 : 0 ≤ x19_1
            · rw [if_pos c9] at H
              have c9b0 : decide (0 ≤ x19_1) = true := decide_eq_true c9
              clear c9
              by_cases c10 : x19_1 < (l0.length : Int)
              · rw [if_pos c10] at H
                have c10b0 : decide (x19_1 < (l0.length : Int)) = true := decide_eq_true c10
                clear c10
                have H' := Aside0.mk H
                clear H
                have p268 : 0 ≤ (x19_1 : Int) := of_decide_eq_true (by first | (with_reducible assumption) | assumption)
                have q268 : x19_1 < (l0.length : Int) := of_decide_eq_true (by first | (with_reducible assumption) | assumption)
                obtain ⟨ad268, e268, hx268_0⟩ := Kd.at_int HR0.out x19_1 p268 q268
                cases e268
                replace hx268_0 := (HB.out.cell (World.block_lt_of_cell? w _ hx268_0)).trans hx268_0
                replace p268 := eq_true p268
                replace q268 := eq_true q268
                go_wp2
                go_loopg [8, 26] k1 (fun kq v8 v26 w' => ∃ (x5_2 : List Int) (x8_2 : Int) (x26_2 : Int), v8 = .int .u64 x8_2 ∧ v26 = .int .i64 x26_2 ∧ Aside0 (nat_Mul.l1 kq l1 x5_2 x19_1 (rd l0 x19_1) x8_2 l0 (l0.length : Int) x19_1 l1 (l1.length : Int) x26_2 = some r) ∧ Aside0 (kq ≤ k1) ∧ Aside0 (Kd.R (Kd.int .u32) 37 w' w.heap.size (fun _ => True) v263 x5_2) ∧ Aside0 (Below w.heap.size w w'))
                case atStart => exact ⟨(x5_1), (0), (0), (by first | rfl | (simp; done) | (simp [*]; done)), (by first | rfl | (simp; done) | (simp [*]; done)), H', ⟨Nat.le_refl _⟩, ⟨by (with_reducible repeat (first | apply Kd.R_alloc | apply Kd.R_drewN | apply Kd.R_drew)); exact HO_5.out⟩, ⟨by repeat (first | (with_reducible first | exact HB.out | apply below_alloc | apply pw_below_drewN | apply below_drew1) | exact HB.out)⟩⟩
                case round =>
                  clear H'
                  try clear c1
                  try clear p2
                  try clear q2
                  try clear hx2
                  try clear c4
                  try clear c4b0
                  try clear c4b1
                  try clear c5
                  try clear c5b0
                  try clear c5b1
                  try clear p6
                  try clear c7
                  try clear c8
                  try clear c8b0
                  try clear c9
                  try clear c9b0
                  try clear c10
                  try clear c10b0
                  try clear hx268_0
                  try clear p2
                  try clear p268
                  try clear p6
                  try clear q268
                  obtain ⟨x5_2, x8_2, x26_2, rfl, rfl, HA, HK2, HO_5, HB⟩ := hrel
                  cases gk with
                  | zero => exact absurd HA.out (by simp [nat_Mul.l1])
                  | succ k2 =>
                    have H := HA.out
                    clear HA
                    simp only [nat_Mul.l1] at H
                    by_cases c11 : x26_2 < (l1.length : Int)
                    · rw [if_pos c11] at H
                      have c11b0 : decide (x26_2 < (l1.length : Int)) = true := decide_eq_true c11
                      clear c11
                      by_cases c12 : 0 ≤ x26_2
                      · rw [if_pos c12] at H
                        have c12b0 : decide (0 ≤ x26_2) = true := decide_eq_true c12
                        clear c12
                        by_cases c13 : x26_2 < (l1.length : Int)
                        · rw [if_pos c13] at H
                          have c13b0 : decide (x26_2 < (l1.length : Int)) = true := decide_eq_true c13
                          clear c13
                          obtain ⟨ji14, hji14⟩ : ∃ j_ : Int, (wrap64 (x19_1 + x26_2)) = j_ := ⟨_, rfl⟩
                          replace H : (if 0 ≤ (ji14) then (if (ji14) < (x5_2.length : Int) then (nat_Mul.l1 k2 l1 (x5_2.set ((ji14) : Int).toNat ((IntKind.u64.wrap (x8_2 + (IntKind.u64.wrap ((IntKind.u64.wrap ((IntKind.u64.wrap ((rd l0 x19_1))) * (IntKind.u64.wrap (rd l1 x26_2)))) + (IntKind.u64.wrap (rd x5_2 (ji14))))))) % 4294967296)) x19_1 (rd l0 x19_1) ((IntKind.u64.wrap (x8_2 + (IntKind.u64.wrap ((IntKind.u64.wrap ((IntKind.u64.wrap ((rd l0 x19_1))) * (IntKind.u64.wrap (rd l1 x26_2)))) + (IntKind.u64.wrap (rd x5_2 (ji14))))))) / 4294967296) l0 (l0.length : Int) x19_1 l1 (l1.length : Int) (wrap64 (x26_2 + 1))) else (none)) else (none)) = some r := by first | (rw [hji14] at H; exact H) | (simp only [hji14] at H ⊢; exact H)
                          have hji14w : (IntKind.i64.wrap (x19_1 + x26_2)) = ji14 := (i64_w _).trans hji14
                          by_cases c15 : 0 ≤ (ji14)
                          · rw [if_pos c15] at H
                            have c15b0 : decide (0 ≤ (ji14)) = true := decide_eq_true c15
                            clear c15
                            by_cases c16 : (ji14) < (x5_2.length : Int)
                            · rw [if_pos c16] at H
                              have c16b0 : decide ((ji14) < (x5_2.length : Int)) = true := decide_eq_true c16
                              clear c16
                              obtain ⟨y271, hy271⟩ : ∃ y_ : List Int, y_ = (x5_2.set ((ji14) : Int).toNat ((IntKind.u64.wrap (x8_2 + (IntKind.u64.wrap ((IntKind.u64.wrap ((IntKind.u64.wrap ((rd l0 x19_1))) * (IntKind.u64.wrap (rd l1 x26_2)))) + (IntKind.u64.wrap (rd x5_2 (ji14))))))) % 4294967296)) := ⟨_, rfl⟩
                              replace H : (nat_Mul.l1 k2 l1 y271 x19_1 (rd l0 x19_1) ((IntKind.u64.wrap (x8_2 + (IntKind.u64.wrap ((IntKind.u64.wrap ((IntKind.u64.wrap ((rd l0 x19_1))) * (IntKind.u64.wrap (rd l1 x26_2)))) + (IntKind.u64.wrap (rd x5_2 (ji14))))))) / 4294967296) l0 (l0.length : Int) x19_1 l1 (l1.length : Int) (wrap64 (x26_2 + 1))) = some r := by first | (rw [hy271]; with_reducible exact H) | (have H2_ := (Option.bind_some _ _).symm.trans H; rw [hy271]; with_reducible exact H2_) | (have H2_ := (Option.bind_some _ _).symm.trans H; with_reducible exact H2_) | with_reducible exact H | (rw [hy271]; exact H) | exact H
                              have Ny271 := Aside0.mk hy271
                              clear hy271
                              have H' := Aside0.mk H
                              clear H
                              have p269 : 0 ≤ (x26_2 : Int) := of_decide_eq_true (by first | (with_reducible assumption) | assumption)
                              have q269 : x26_2 < (l1.length : Int) := of_decide_eq_true (by first | (with_reducible assumption) | assumption)
                              obtain ⟨ad269, e269, hx269_0⟩ := Kd.at_int HR1.out x26_2 p269 q269
                              cases e269
                              replace hx269_0 := (HB.out.cell (World.block_lt_of_cell? w _ hx269_0)).trans hx269_0
                              replace p269 := eq_true p269
                              replace q269 := eq_true q269
                              obtain ⟨Ao18, co18, eo18⟩ := Kd.R_slice HO_5.out
                              subst eo18
                              have p270 : 0 ≤ ((ji14) : Int) := of_decide_eq_true (by first | (with_reducible assumption) | assumption)
                              have q270 : (ji14) < (x5_2.length : Int) := of_decide_eq_true (by first | (with_reducible assumption) | assumption)
                              obtain ⟨ad270, e270, hx270_0⟩ := Kd.at_int (Kd.R_reads' HO_5.out).2.2 (ji14) p270 q270
                              cases e270
                              replace p270 := eq_true p270
                              replace q270 := eq_true q270
                              have p17 : 0 ≤ ((ji14) : Int) := of_decide_eq_true (by first | (with_reducible assumption) | assumption)
                              have q17 : ((ji14) : Int) < ((x5_2.length : Int) : Int) := of_decide_eq_true (by first | (with_reducible assumption) | assumption)
                              obtain ⟨go17, co17, eo17, gb17, gl17, cl17, HG17⟩ := Kd.R_form HO_5.out (by omega)
                              (first | cases eo17 | (injection eo17 with ea_ en_ ec_; (first | subst ea_ | (injection ea_ with ea_; subst ea_)); subst ec_; clear en_))
                              have GB17 := Aside0.mk gb17
                              have GG17 := Aside0.mk HG17
                              clear gb17 gl17 HG17
                              (first | simp only [add_plain] at hx270_0 | skip)
                              obtain ⟨hx17_0, hf17_0⟩ := Kd.R_celln 0 HO_5.out ((ji14) : Int) p17 q17
                              replace p17 := eq_true p17
                              replace q17 := eq_true q17
                              have HP19 := Kd.R_putg HO_5.out ((ji14) : Int) ((IntKind.u64.wrap (x8_2 + (IntKind.u64.wrap ((IntKind.u64.wrap ((IntKind.u64.wrap ((rd l0 x19_1))) * (IntKind.u64.wrap (rd l1 x26_2)))) + (IntKind.u64.wrap (rd x5_2 (ji14))))))) % 4294967296)
                              go_wp2_with (first | ((with_reducible refine gate_store (t := 37) (p := 52) rfl ?_); refine store_event (t := 37) (p := 52) (v := ?vo_w20) (w1 := (wr.setCell ⟨go17, ((ji14) : Int).toNat, none⟩ (.int .u32 ((IntKind.u64.wrap (x8_2 + (IntKind.u64.wrap ((IntKind.u64.wrap ((IntKind.u64.wrap ((rd l0 x19_1))) * (IntKind.u64.wrap (rd l1 x26_2)))) + (IntKind.u64.wrap (rd x5_2 (ji14))))))) % 4294967296)))) ?hg ?ho ?hn ?hr ?_; (case ho => rfl); (case hg => rfl); (case hn => rfl); (case hr => first | (go_simp; done) | (go_simp; rfl)); intro w20 hw; have hg : wr.grownBy w20 (some go17) := (by rw [hw]; exact HP19.2); have hp_ : Kd.R (Kd.int .u32) 37 w20 w.heap.size (fun _ => True) (.slice (some ⟨go17, 0, none⟩) x5_2.length co18) y271 := (by rw [hw, Ny271.out]; exact HP19.1); clear HP19; have n0_ := Aside0.mk (hp_); have n1_ := Aside0.mk ((by rw [hw]; exact below_set (HB.out) GB17.out : Below w.heap.size w w20)); clear HO_5; clear HB; have HO_5 := n0_; have HB := n1_; clear n0_ n1_; clear hg hw hp_))
                              go_roundg k2
                              case measure => have := HK1.out; have := HK2.out; omega
                              case rel => exact ⟨(y271), ((IntKind.u64.wrap (x8_2 + (IntKind.u64.wrap ((IntKind.u64.wrap ((IntKind.u64.wrap ((rd l0 x19_1))) * (IntKind.u64.wrap (rd l1 x26_2)))) + (IntKind.u64.wrap (rd x5_2 (ji14))))))) / 4294967296), (wrap64 (x26_2 + 1)), (by first | rfl | (simp; done) | (simp only [← hji14] <;> (first | rfl | simp)) | (simp [*]; done)), (by first | rfl | (simp; done) | (simp [*]; done)), H', ⟨by have := HK1.out; have := HK2.out; omega⟩, ⟨by (with_reducible repeat (first | apply Kd.R_alloc | apply Kd.R_drewN | apply Kd.R_drew)); exact HO_5.out⟩, ⟨by repeat (first | (with_reducible first | exact HB.out | apply below_alloc | apply pw_below_drewN | apply below_drew1) | exact HB.out)⟩⟩
                            · rw [if_neg c16] at H
                              exact absurd H (by simp)
                          · rw [if_neg c15] at H
                            exact absurd H (by simp)
                        · rw [if_neg c13] at H
                          exact absurd H (by simp)
                      · rw [if_neg c12] at H
                        exact absurd H (by simp)
                    · rw [if_neg c11] at H
                      have c11b0 : decide (x26_2 < (l1.length : Int)) = false := decide_eq_false c11
                      clear c11
                      obtain ⟨ji21, hji21⟩ : ∃ j_ : Int, (wrap64 (x19_1 + (l1.length : Int))) = j_ := ⟨_, rfl⟩
                      replace H : (if 0 ≤ (ji21) then (if (ji21) < (x5_2.length : Int) then (nat_Mul.l0 k2 l1 (x5_2.set ((ji21) : Int).toNat ((x8_2) % 4294967296)) l0 (l0.length : Int) (wrap64 (x19_1 + 1))) else (none)) else (none)) = some r := by first | (rw [hji21] at H; exact H) | (simp only [hji21] at H ⊢; exact H)
                      have hji21w : (IntKind.i64.wrap (x19_1 + (l1.length : Int))) = ji21 := (i64_w _).trans hji21
                      by_cases c22 : 0 ≤ (ji21)
                      · rw [if_pos c22] at H
                        have c22b0 : decide (0 ≤ (ji21)) = true := decide_eq_true c22
                        clear c22
                        by_cases c23 : (ji21) < (x5_2.length : Int)
                        · rw [if_pos c23] at H
                          have c23b0 : decide ((ji21) < (x5_2.length : Int)) = true := decide_eq_true c23
                          clear c23
                          obtain ⟨y272, hy272⟩ : ∃ y_ : List Int, y_ = (x5_2.set ((ji21) : Int).toNat ((x8_2) % 4294967296)) := ⟨_, rfl⟩
                          replace H : (nat_Mul.l0 k2 l1 y272 l0 (l0.length : Int) (wrap64 (x19_1 + 1))) = some r := by first | (rw [hy272]; with_reducible exact H) | (have H2_ := (Option.bind_some _ _).symm.trans H; rw [hy272]; with_reducible exact H2_) | (have H2_ := (Option.bind_some _ _).symm.trans H; with_reducible exact H2_) | with_reducible exact H | (rw [hy272]; exact H) | exact H
                          have Ny272 := Aside0.mk hy272
                          clear hy272
                          have H' := Aside0.mk H
                          clear H
                          have p24 : 0 ≤ ((ji21) : Int) := of_decide_eq_true (by first | (with_reducible assumption) | assumption)
                          have q24 : ((ji21) : Int) < ((x5_2.length : Int) : Int) := of_decide_eq_true (by first | (with_reducible assumption) | assumption)
                          obtain ⟨go24, co24, eo24, gb24, gl24, cl24, HG24⟩ := Kd.R_form HO_5.out (by omega)
                          (first | cases eo24 | (injection eo24 with ea_ en_ ec_; (first | subst ea_ | (injection ea_ with ea_; subst ea_)); subst ec_; clear en_))
                          have GB24 := Aside0.mk gb24
                          have GG24 := Aside0.mk HG24
                          clear gb24 gl24 HG24
                          obtain ⟨hx24_0, hf24_0⟩ := Kd.R_celln 0 HO_5.out ((ji21) : Int) p24 q24
                          replace p24 := eq_true p24
                          replace q24 := eq_true q24
                          have HP25 := Kd.R_putg HO_5.out ((ji21) : Int) ((x8_2) % 4294967296)
                          go_wp2_with (first | ((with_reducible refine gate_store (t := 37) (p := 63) rfl ?_); refine store_event (t := 37) (p := 63) (v := ?vo_w26) (w1 := (wr.setCell ⟨go24, ((ji21) : Int).toNat, none⟩ (.int .u32 ((x8_2) % 4294967296)))) ?hg ?ho ?hn ?hr ?_; (case ho => rfl); (case hg => rfl); (case hn => rfl); (case hr => first | (go_simp; done) | (go_simp; rfl)); intro w26 hw; have hg : wr.grownBy w26 (some go24) := (by rw [hw]; exact HP25.2); have hp_ : Kd.R (Kd.int .u32) 37 w26 w.heap.size (fun _ => True) (.slice (some ⟨go24, 0, none⟩) x5_2.length co24) y272 := (by rw [hw, Ny272.out]; exact HP25.1); clear HP25; have n0_ := Aside0.mk (hp_); have n1_ := Aside0.mk ((by rw [hw]; exact below_set (HB.out) GB24.out : Below w.heap.size w w26)); clear HO_5; clear HB; have HO_5 := n0_; have HB := n1_; clear n0_ n1_; clear hg hw hp_))
                          go_roundg k2
                          case measure => have := HK1.out; have := HK2.out; omega
                          case rel => exact ⟨(y272), (wrap64 (x19_1 + 1)), (by first | rfl | (simp; done) | (simp [*]; done)), H', ⟨by have := HK1.out; have := HK2.out; omega⟩, ⟨by (with_reducible repeat (first | apply Kd.R_alloc | apply Kd.R_drewN | apply Kd.R_drew)); exact HO_5.out⟩, ⟨by repeat (first | (with_reducible first | exact HB.out | apply below_alloc | apply pw_below_drewN | apply below_drew1) | exact HB.out)⟩⟩
                        · rw [if_neg c23] at H
                          exact absurd H (by simp)
                      · rw [if_neg c22] at H
                        exact absurd H (by simp)
              · rw [if_neg c10] at H
                exact absurd H (by simp)
            · rw [if_neg c9] at H
              exact absurd H (by simp)
          · rw [if_neg c8] at H
            have c8b0 : decide (x19_1 < (l0.length : Int)) = false := decide_eq_false c8
            clear c8
            replace H := Option.bind_eq_some_iff.mp H
            obtain ⟨t265, A270, H⟩ := H
            replace H : (some t265) = some r := H
            have A27 := Aside0.mk A270
            clear A270
            obtain rfl := Option.some.inj H
            obtain ⟨Ao28, co28, eo28⟩ := Kd.R_slice HO_5.out
            subst eo28
            go_wp2_with (first | ((with_reducible refine gate_callee (f := 85) rfl ?_); refine goesL_ (some 66) rfl rfl Try.func85 (by kernel_rfl) rfl #[.slice Ao28 x5_1.length co28] rfl (by (try simp only [List.map_toArray, List.map_cons, List.map_nil]); first | done | rfl | (simp only [List.length_drop, List.length_take]; rfl)) ?_; (with_reducible refine (nat_trim.calls k1 _ _ x5_1 t265 _ ?side1 ?side2 A27.out).mono ?_); (case side1 => repeat (first | exact (Kd.R_reads' HO_5.out).2.2 | (with_reducible refine Kd.C_alloc ?_ _) | (with_reducible refine Kd.C_drewN ?_ _) | (with_reducible refine Kd.C_drew ?_))); (case side2 => exact (Kd.R_reads' HO_5.out).2.1); rintro e w29 ⟨v266, rfl, ho0, hb⟩; refine ⟨_, rfl, ?_⟩; have n0_ := Aside0.mk (Kd.R_elder' (by (with_reducible repeat (first | apply Kd.R_alloc | apply Kd.R_drewN | apply Kd.R_drew)); exact HO_5.out) (Kd.R_base ho0) hb); have n1_ := Aside0.mk (Kd.R_lower (Kd.R_new' ho0 (Kd.R_lt (by (with_reducible repeat (first | apply Kd.R_alloc | apply Kd.R_drewN | apply Kd.R_drew)); exact HO_5.out))) (below_size (by repeat (first | (with_reducible first | exact HB.out | apply below_alloc | apply pw_below_drewN | apply below_drew1) | exact HB.out)))); have n2_ := Aside0.mk (below_step (by repeat (first | (with_reducible first | exact HB.out | apply below_alloc | apply pw_below_drewN | apply below_drew1) | exact HB.out)) hb); clear HO_5; clear HB; have HO_5 := n0_; have HO267 := n1_; have HB := n2_; clear n0_ n1_ n2_; (try clear hb); (try clear ho0)))
            go_ret
            exact ⟨_, by first | rfl | (simp [errW_none, errW_some] <;> rfl) | (simp only [← hji3]; first | rfl | (simp [errW_none, errW_some] <;> rfl)) | (simp [*, errW_none, errW_some] <;> rfl), by (with_reducible repeat (first | apply Kd.R_alloc | apply Kd.R_drewN | apply Kd.R_drew)); exact Kd.R_mono HO267.out (fun _ hk => trivial), by repeat (first | (with_reducible first | exact HB.out | apply below_alloc | apply pw_below_drewN | apply below_drew1) | exact HB.out)⟩
    · rw [if_neg c5] at H
      exact absurd H (by simp)
  · rw [if_neg c4] at H
    exact absurd H (by simp)

theorem nat_Mul.ev_in {a b : List Int} (ha : Num.Ws a) (hb : Num.Ws b) (hla : a.length < 1099511627776) (hlb : b.length < 1099511627776) {i p : Nat} (hi : i < a.length) (hp : p < 4294967296) (y : List Int) (R : List Int)
    (hend : ∀ x : List Int, x.length = a.length + b.length → Num.Ws x → ∀ c : Nat, c < 4294967296 → (∀ t, i + b.length ≤ t → x.getD t 0 = y.getD t 0) → Num.nv x + 2 ^ (32 * (i + b.length)) * c = Num.nv y + 2 ^ (32 * i) * (p * Num.nv b) →
      Ev (fun k => nat_Mul.l0 k b (x.set (i + b.length) ((c : Int) % 4294967296)) a (a.length : Int) ((i + 1 : Nat) : Int)) R) (d : Nat) :
    ∀ (j : Nat) (x : List Int) (c : Nat), j + d = b.length → x.length = a.length + b.length → Num.Ws x → c < 4294967296 → (∀ t, i + j ≤ t → x.getD t 0 = y.getD t 0) → Num.nv x + 2 ^ (32 * (i + j)) * c = Num.nv y + 2 ^ (32 * i) * (p * Num.nv (b.take j)) →
      Ev (fun k => nat_Mul.l1 k b x (i : Int) (p : Int) (c : Int) a (a.length : Int) (i : Int) b (b.length : Int) (j : Int)) R := by
  induction d with
  | zero =>
    intro j x c hj hx hW hc hs hv
    obtain rfl : j = b.length := by omega
    rw [List.take_length] at hv
    have c1 : ¬ (b.length : Int) < (b.length : Int) := by omega
    have c2 : 0 ≤ ((i + b.length : Nat) : Int) := by omega
    have c3 : ((i + b.length : Nat) : Int) < (x.length : Int) := by omega
    have b1 : i + b.length < 9223372036854775808 := by omega
    have b2 : i + 1 < 9223372036854775808 := by omega
    refine Ev.step (f := fun k => nat_Mul.l0 k b (x.set (i + b.length) ((c : Int) % 4294967296)) a (a.length : Int) ((i + 1 : Nat) : Int)) (fun k => ?_) (hend x hx hW c hc hs hv)
    simp only [nat_Mul.l1, w64_add i b.length b1, w64_succ i b2]
    rw [if_neg c1, if_pos c2, if_pos c3, Int.toNat_natCast]
  | succ d ih =>
    intro j x c hj hx hW hc hs hv
    have hgb := hb.getD j
    have hgx := hW.getD (i + j)
    obtain ⟨q, hq⟩ : ∃ q : Nat, (q : Int) = b.getD j 0 := ⟨(b.getD j 0).toNat, by omega⟩
    obtain ⟨u, hu⟩ : ∃ u : Nat, (u : Int) = x.getD (i + j) 0 := ⟨(x.getD (i + j) 0).toNat, by omega⟩
    have hpq : p * q ≤ 4294967295 * 4294967295 := Nat.mul_le_mul (by omega) (by omega)
    have b0 : i + j < 9223372036854775808 := by omega
    have b1 : j + 1 < 9223372036854775808 := by omega
    have b2 : p < 18446744073709551616 := by omega
    have b3 : q < 18446744073709551616 := by omega
    have b4 : u < 18446744073709551616 := by omega
    have b5 : p * q < 18446744073709551616 := by omega
    have b6 : p * q + u < 18446744073709551616 := by omega
    have b7 : c + (p * q + u) < 18446744073709551616 := by omega
    have b8 : (c + (p * q + u)) / 4294967296 < 4294967296 := by omega
    have c1 : (j : Int) < (b.length : Int) := by omega
    have c2 : 0 ≤ (j : Int) := by omega
    have c4 : 0 ≤ ((i + j : Nat) : Int) := by omega
    have c5 : ((i + j : Nat) : Int) < (x.length : Int) := by omega
    refine Ev.step (f := fun k => nat_Mul.l1 k b (x.set (i + j) (((c + (p * q + u)) % 4294967296 : Nat) : Int)) (i : Int) (p : Int) (((c + (p * q + u)) / 4294967296 : Nat) : Int) a (a.length : Int) (i : Int) b (b.length : Int) ((j + 1 : Nat) : Int)) (fun k => ?_) ?_
    · simp only [nat_Mul.l1, w64_add i j b0, w64_succ j b1]
      rw [if_pos c1, if_pos c2, if_pos c1, if_pos c4, if_pos c5, rd_at hq, rd_at hu, u64_nat p b2, u64_nat q b3, u64_nat u b4, u64_mul p q b5, u64_add (p * q) u b6, u64_add c (p * q + u) b7, mod32_nat, div32_nat, Int.toNat_natCast]
    · refine ih (j + 1) _ _ (by omega) (by rw [List.length_set]; exact hx) (hW.set _ (by omega) (by omega)) b8 ?_ ?_
      · intro t ht
        rw [← hs t (by omega), List.getD_eq_getElem?_getD, List.getElem?_set_ne (by omega), ← List.getD_eq_getElem?_getD]
      · have v1 := Num.nv_set (l := x) (i := i + j) (by omega) (((c + (p * q + u)) % 4294967296 : Nat) : Int)
        rw [← hu, Int.toNat_natCast, Int.toNat_natCast] at v1
        have hsp := Num.split_mul (2 ^ (32 * (i + j))) (c + (p * q + u))
        have h2 : 2 ^ (32 * (i + j)) * (c + (p * q + u)) = 2 ^ (32 * (i + j)) * c + (2 ^ (32 * (i + j)) * (p * q) + 2 ^ (32 * (i + j)) * u) := by rw [Nat.mul_add (2 ^ (32 * (i + j))), Nat.mul_add (2 ^ (32 * (i + j)))]
        have h3 : 2 ^ (32 * i) * (p * Num.nv (b.take (j + 1))) = 2 ^ (32 * i) * (p * Num.nv (b.take j)) + 2 ^ (32 * (i + j)) * (p * q) := by
          have h4 : 2 ^ (32 * (i + j)) = 2 ^ (32 * i) * 2 ^ (32 * j) := by rw [← Nat.pow_add]; congr 1; omega
          rw [Num.nv_take_succ, ← hq, Int.toNat_natCast, h4, Nat.mul_add p, Nat.mul_add (2 ^ (32 * i)), Nat.mul_left_comm p, Nat.mul_assoc]
        rw [h3, show i + (j + 1) = i + j + 1 from rfl, Num.pow_succ32]
        omega
theorem nat_Mul.ev_out {a b : List Int} (ha : Num.Ws a) (hb : Num.Ws b) (hla : a.length < 1099511627776) (hlb : b.length < 1099511627776) (d : Nat) : ∀ (i : Nat) (x : List Int), i + d = a.length → x.length = a.length + b.length → Num.Ws x →
    Num.nv x = Num.nv (a.take i) * Num.nv b → Ev (fun k => nat_Mul.l0 k b x a (a.length : Int) (i : Int)) (Num.nd (Num.nv a * Num.nv b)) := by
  induction d with
  | zero =>
    intro i x hi hx hW hv
    obtain rfl : i = a.length := by omega
    rw [List.take_length] at hv
    have c1 : ¬ (a.length : Int) < (a.length : Int) := by omega
    refine Ev.step (f := fun k => (nat_trim.f k x).bind fun t => some t) (fun k => ?_) ?_
    · simp only [nat_Mul.l0]
      rw [if_neg c1]
    · rw [← hv]
      exact Ev.bind (nat_trim.ev hW (by omega)) (Ev.now _)
  | succ d ih =>
    intro i x hi hx hW hv
    have hga := ha.getD i
    obtain ⟨p, hp⟩ : ∃ p : Nat, (p : Int) = a.getD i 0 := ⟨(a.getD i 0).toNat, by omega⟩
    have c1 : (i : Int) < (a.length : Int) := by omega
    have c2 : 0 ≤ (i : Int) := by omega
    have htk := Num.nv_take_lt ha i (by omega)
    have hbl := Num.nv_lt hb
    refine Ev.step (f := fun k => nat_Mul.l1 k b x (i : Int) (p : Int) 0 a (a.length : Int) (i : Int) b (b.length : Int) 0) (fun k => ?_) ?_
    · simp only [nat_Mul.l0]
      rw [if_pos c1, if_pos c2, if_pos c1, rd_at hp]
    · refine nat_Mul.ev_in ha hb hla hlb (by omega) (by omega) x _ ?_ b.length 0 x 0 (by omega) hx hW (by omega) (fun t _ => rfl) (by simp [Num.nv])
      intro x' hx' hW' c hc hs hv'
      have e : (c : Int) % 4294967296 = (c : Int) := by omega
      rw [e]
      -- the word at i + b.length was a nought
      have hxlt : Num.nv x < 2 ^ (32 * (i + b.length)) * 1 := by
        rw [hv, Nat.mul_one, show 32 * (i + b.length) = 32 * i + 32 * b.length from by omega, Nat.pow_add]
        exact Nat.mul_lt_mul'' htk hbl
      have h0 := (Num.nv_top (l := x) (j := i + b.length) (R := 1) (by omega) (by omega) hxlt).1
      have hz : x'.getD (i + b.length) 0 = x.getD (i + b.length) 0 := hs _ (Nat.le_refl _)
      have v1 := Num.nv_set (l := x') (i := i + b.length) (by omega) (c : Int)
      rw [hz, show (x.getD (i + b.length) 0).toNat = 0 from by omega, Nat.mul_zero, Nat.add_zero, Int.toNat_natCast] at v1
      refine ih (i + 1) _ (by omega) (by rw [List.length_set]; exact hx') (hW'.set _ (by omega) (by omega)) ?_
      rw [v1, hv', hv, Num.nv_take_succ, ← hp, Int.toNat_natCast, Nat.add_mul, Nat.mul_assoc (2 ^ (32 * i))]
theorem nat_Mul.ev {a b : List Int} (ha : Num.okw a = true) (hb : Num.okw b = true) : Ev (fun k => nat_Mul.f k a b) (Num.nd (Num.nv a * Num.nv b)) := by
  obtain ⟨la, wa⟩ := (Num.okw_iff a).1 ha
  obtain ⟨lb, wb⟩ := (Num.okw_iff b).1 hb
  have h := nat_Mul.ev_out wa wb la lb a.length 0 (List.replicate (a.length + b.length) 0) (by omega) (by simp) (Num.Ws.replicate _) (by simp [Num.nv, Num.nv_replicate])
  have b1 : a.length + b.length < 9223372036854775808 := by omega
  have c1 : 0 ≤ ((a.length + b.length : Nat) : Int) := by omega
  have c2 : a.length + b.length ≤ 70368744177664 := by omega
  refine Ev.congr (fun k => ?_) h
  unfold nat_Mul.f
  rw [w64_add _ _ b1, if_pos c1, Int.toNat_natCast, if_pos c2]
  rfl

end Go.Proofs.Ytjpkljkkcbaohaa.PR

end
section
namespace Go.Proofs.Ytjpkljkkcbaohaa.PR
open Go.RowKit Go.Proofs.YtjpkljkkcbaohaaW.PrintWords Go.Proofs.YtjpkljkkcbaohaaW.PrintLast Go.Proofs.YtjpkljkkcbaohaaW.PrintMore
attribute [local go_sem] max2_int min2_int max_two min_two max_three min_three max_four min_four   -- for this text's walks alone
set_option linter.unusedVariables false
set_option linter.unusedSimpArgs false

/-! ### whole_Mul: function 25 -/
def whole_Mul.f (k : Nat) (a0_0 : Bool) (l0_1 : List Int) (a1_0 : Bool) (l1_1 : List Int) : Option (Bool × List Int) := (whole_Sign.f k a0_0 l0_1).bind fun t276 => ((whole_Sign.f k a1_0 l1_1).bind fun t277 => ((nat_Mul.f k l0_1 l1_1).bind fun t278 => ((whole_Make.f k (decide ((wrap64 (t276 * t277)) < 0)) t278).bind fun bt281 => (some (bt281.1, bt281.2)))))
theorem whole_Mul.mono : ∀ a0 a1 a2 a3 k, LeO (whole_Mul.f k a0 a1 a2 a3) (whole_Mul.f (k + 1) a0 a1 a2 a3) := by
  intro a0 a1 a2 a3 k
  unfold whole_Mul.f
  repeat' first
      | (with_reducible exact nat_Mul.mono _ _ _)
      | (with_reducible exact whole_Make.mono _ _ _)
      | (with_reducible exact whole_Sign.mono _ _ _)
      | (with_reducible exact LeO.refl _)
      | (with_reducible exact LeO.none _)
      | (with_reducible refine LeO.ite ?_ ?_)
      | (with_reducible refine LeO.bind ?_ (fun _ => ?_))
      | exact nat_Mul.mono _ _ _
      | exact whole_Make.mono _ _ _
      | exact whole_Sign.mono _ _ _
      | exact LeO.none _
      | refine LeO.ite ?_ ?_
      | refine LeO.bind ?_ (fun _ => ?_)
def whole_Mul.T1 : Bool × List (List Nat × List Nat) := (true, [([], []), ([0], [0]), ([], []), ([2, 1], [2]), ([1, 3], [1, 3]), ([4], [4]), ([], []), ([6], [6]), ([], []), ([8], [8]), ([7, 9, 3], [7, 9]), ([5, 10, 10], [5, 10]), ([11, 11, 0, 1, 2, 3, 4, 5, 6, 7, 8, 9, 10, 11], [11])])
def whole_Mul.B1 : List Nat := [0, 1, 0, 7, 15, 31, 0, 64, 0, 256, 975, 2047, 4095]
theorem whole_Mul.tab1 : rtab .any (opsOf Try.f25 1) = whole_Mul.T1 := by kernel_rfl
theorem whole_Mul.bits1 : waitsOk whole_Mul.T1.2 whole_Mul.B1 = true := by kernel_rfl
set_option maxHeartbeats 8000000 in
set_option maxRecDepth 100000 in
theorem whole_Mul.calls (k : Nat) (a0_0 : Bool) (A0_1 : Option Addr) (c0_1 : Nat) (l0_1 : List Int) (a1_0 : Bool) (A1_1 : Option Addr) (c1_1 : Nat) (l1_1 : List Int) (r1 : Bool) (r2 : List Int) (w : World) (hr0_1 : Kd.C (Kd.int .u32) w A0_1 l0_1.length l0_1) (hc0_1 : l0_1.length ≤ c0_1) (hr1_1 : Kd.C (Kd.int .u32) w A1_1 l1_1.length l1_1) (hc1_1 : l1_1.length ≤ c1_1) (h : whole_Mul.f k a0_0 l0_1 a1_0 l1_1 = some (r1, r2)) :
    Calls Try.prog 25 #[.agg #[.bool a0_0, .slice A0_1 l0_1.length c0_1], .agg #[.bool a1_0, .slice A1_1 l1_1.length c1_1]] w fun e w' => ∃ v1_ : Value, e = .returned (.agg #[.bool r1, v1_]) ∧ Kd.R (Kd.int .u32) 37 w' w.heap.size (fun _ => True) v1_ r2 ∧ Below w.heap.size w w' := by
  have hu25 := Try.underlying25
  have HR0_1 := Aside0.mk hr0_1
  have HC0_1 := Aside0.mk hc0_1
  clear hr0_1 hc0_1
  have HR1_1 := Aside0.mk hr1_1
  have HC1_1 := Aside0.mk hc1_1
  clear hr1_1 hc1_1
  have HB := Aside0.mk (Below.refl w.heap.size w)
  have H : ((whole_Sign.f k a0_0 l0_1).bind fun t276 => ((whole_Sign.f k a1_0 l1_1).bind fun t277 => ((nat_Mul.f k l0_1 l1_1).bind fun t278 => ((whole_Make.f k (decide ((wrap64 (t276 * t277)) < 0)) t278).bind fun bt281 => (some (bt281.1, bt281.2)))))) = some (r1, r2) := h
  clear h
  replace H := Option.bind_eq_some_iff.mp H
  obtain ⟨t276, A30, H⟩ := H
  replace H : ((whole_Sign.f k a1_0 l1_1).bind fun t277 => ((nat_Mul.f k l0_1 l1_1).bind fun t278 => ((whole_Make.f k (decide ((wrap64 (t276 * t277)) < 0)) t278).bind fun bt281 => (some (bt281.1, bt281.2))))) = some (r1, r2) := H
  have A3 := Aside0.mk A30
  clear A30
  replace H := Option.bind_eq_some_iff.mp H
  obtain ⟨t277, A40, H⟩ := H
  replace H : ((nat_Mul.f k l0_1 l1_1).bind fun t278 => ((whole_Make.f k (decide ((wrap64 (t276 * t277)) < 0)) t278).bind fun bt281 => (some (bt281.1, bt281.2)))) = some (r1, r2) := H
  have A4 := Aside0.mk A40
  clear A40
  replace H := Option.bind_eq_some_iff.mp H
  obtain ⟨t278, A50, H⟩ := H
  replace H : ((whole_Make.f k (decide ((wrap64 (t276 * t277)) < 0)) t278).bind fun bt281 => (some (bt281.1, bt281.2))) = some (r1, r2) := H
  have A5 := Aside0.mk A50
  clear A50
  replace H := Option.bind_eq_some_iff.mp H
  obtain ⟨⟨t281, t282⟩, A60, H⟩ := H
  replace H : (some (t281, t282)) = some (r1, r2) := H
  have A6 := Aside0.mk A60
  clear A60
  simp only [Option.some.injEq, Prod.mk.injEq] at H
  obtain ⟨rfl, rfl⟩ := H
  go_enter Try.func25, Try.ntmps25
  try go_wp2_with (first | ((with_reducible refine gate_dst (N := 2) rfl ?_); refine box_event ?hg (N := 2) ?hd (cs := #[.bool a0_0, .slice A0_1 l0_1.length c0_1]) (t := 25) ?hr ?_; (case hd => rfl); (case hg => rfl); (case hr => first | (go_simp; done) | (go_simp; rfl)); intro gb273 hg w7 hbox hb; have n0_ := Aside0.mk (below_step (by repeat (first | (with_reducible first | exact HB.out | apply below_alloc | apply pw_below_drewN | apply below_drew1) | exact HB.out)) hb); have n1_ := Aside0.mk (hbox); have n2_ := Aside0.mk ((by rw [hg]; exact (below_size (by repeat (first | (with_reducible first | exact HB.out | apply below_alloc | apply pw_below_drewN | apply below_drew1) | exact HB.out))) : w.heap.size ≤ gb273)); have n3_ := Aside0.mk ((by rw [hg]; exact (below_size (by repeat (first | (with_reducible first | exact HB.out | apply below_alloc | apply pw_below_drewN | apply below_drew1) | exact HB.out))) : w.heap.size ≤ gb273)); clear HB; have HB := n0_; have BK273 := n1_; have GW273 := n2_; have GE273 := n3_; clear n0_ n1_ n2_ n3_; clear hb hbox hg) | ((with_reducible refine gate_dst (N := 3) rfl ?_); refine box_event ?hg (N := 3) ?hd (cs := #[.bool a1_0, .slice A1_1 l1_1.length c1_1]) (t := 25) ?hr ?_; (case hd => rfl); (case hg => rfl); (case hr => first | (go_simp; done) | (go_simp; rfl)); intro gb274 hg w8 hbox hb; have n0_ := Aside0.mk (blk_below (g := gb273) (o := .cells #[.bool a0_0, .slice A0_1 l0_1.length c0_1] 25 (0, 0)) (by (with_reducible repeat (first | refine blk_drewN ?_ _ | refine blk_drew ?_ | refine blk_alloc ?_ _)); exact BK273.out) hb); have n1_ := Aside0.mk (below_step (by repeat (first | (with_reducible first | exact HB.out | apply below_alloc | apply pw_below_drewN | apply below_drew1 | refine below_set ?_ GE273.out) | exact HB.out)) hb); have n2_ := Aside0.mk (hbox); have n3_ := Aside0.mk ((by rw [hg]; exact (below_size (by repeat (first | (with_reducible first | exact HB.out | apply below_alloc | apply pw_below_drewN | apply below_drew1 | refine below_set ?_ GE273.out) | exact HB.out))) : w.heap.size ≤ gb274)); have n4_ := Aside0.mk ((by rw [hg]; exact (below_size (by repeat (first | (with_reducible first | exact HB.out | apply below_alloc | apply pw_below_drewN | apply below_drew1 | refine below_set ?_ GE273.out) | exact HB.out))) : w.heap.size ≤ gb274)); have n5_ := Aside0.mk ((by rw [hg]; exact Nat.ne_of_lt (blk_lt (g := gb273) (o := .cells #[.bool a0_0, .slice A0_1 l0_1.length c0_1] 25 (0, 0)) (by (with_reducible repeat (first | refine blk_drewN ?_ _ | refine blk_drew ?_ | refine blk_alloc ?_ _)); exact BK273.out)) : gb273 ≠ gb274)); have n6_ := Aside0.mk ((by rw [hg]; exact Nat.ne_of_gt (blk_lt (g := gb273) (o := .cells #[.bool a0_0, .slice A0_1 l0_1.length c0_1] 25 (0, 0)) (by (with_reducible repeat (first | refine blk_drewN ?_ _ | refine blk_drew ?_ | refine blk_alloc ?_ _)); exact BK273.out)) : gb274 ≠ gb273)); clear BK273; clear HB; have BK273 := n0_; have HB := n1_; have BK274 := n2_; have GW274 := n3_; have GE274 := n4_; have NB273_274 := n5_; have NB274_273 := n6_; clear n0_ n1_ n2_ n3_ n4_ n5_ n6_; clear hb hbox hg) | ((with_reducible refine gate_dst (N := 4) rfl ?_); refine box_event ?hg (N := 4) ?hd (cs := #[.bool false, .slice none 0 0]) (t := 25) ?hr ?_; (case hd => rfl); (case hg => rfl); (case hr => first | (go_simp; done) | (go_simp; rfl)); intro gb275 hg w9 hbox hb; have n0_ := Aside0.mk (blk_below (g := gb273) (o := .cells #[.bool a0_0, .slice A0_1 l0_1.length c0_1] 25 (0, 0)) (by (with_reducible repeat (first | refine blk_drewN ?_ _ | refine blk_drew ?_ | refine blk_alloc ?_ _)); exact BK273.out) hb); have n1_ := Aside0.mk (blk_below (g := gb274) (o := .cells #[.bool a1_0, .slice A1_1 l1_1.length c1_1] 25 (0, 0)) (by (with_reducible repeat (first | refine blk_drewN ?_ _ | refine blk_drew ?_ | refine blk_alloc ?_ _)); exact BK274.out) hb); have n2_ := Aside0.mk (below_step (by repeat (first | (with_reducible first | exact HB.out | apply below_alloc | apply pw_below_drewN | apply below_drew1 | refine below_set ?_ GE273.out | refine below_set ?_ GE274.out) | exact HB.out)) hb); have n3_ := Aside0.mk (hbox); have n4_ := Aside0.mk ((by rw [hg]; exact (below_size (by repeat (first | (with_reducible first | exact HB.out | apply below_alloc | apply pw_below_drewN | apply below_drew1 | refine below_set ?_ GE273.out | refine below_set ?_ GE274.out) | exact HB.out))) : w.heap.size ≤ gb275)); have n5_ := Aside0.mk ((by rw [hg]; exact (below_size (by repeat (first | (with_reducible first | exact HB.out | apply below_alloc | apply pw_below_drewN | apply below_drew1 | refine below_set ?_ GE273.out | refine below_set ?_ GE274.out) | exact HB.out))) : w.heap.size ≤ gb275)); have n6_ := Aside0.mk ((by rw [hg]; exact Nat.ne_of_lt (blk_lt (g := gb273) (o := .cells #[.bool a0_0, .slice A0_1 l0_1.length c0_1] 25 (0, 0)) (by (with_reducible repeat (first | refine blk_drewN ?_ _ | refine blk_drew ?_ | refine blk_alloc ?_ _)); exact BK273.out)) : gb273 ≠ gb275)); have n7_ := Aside0.mk ((by rw [hg]; exact Nat.ne_of_gt (blk_lt (g := gb273) (o := .cells #[.bool a0_0, .slice A0_1 l0_1.length c0_1] 25 (0, 0)) (by (with_reducible repeat (first | refine blk_drewN ?_ _ | refine blk_drew ?_ | refine blk_alloc ?_ _)); exact BK273.out)) : gb275 ≠ gb273)); have n8_ := Aside0.mk ((by rw [hg]; exact Nat.ne_of_lt (blk_lt (g := gb274) (o := .cells #[.bool a1_0, .slice A1_1 l1_1.length c1_1] 25 (0, 0)) (by (with_reducible repeat (first | refine blk_drewN ?_ _ | refine blk_drew ?_ | refine blk_alloc ?_ _)); exact BK274.out)) : gb274 ≠ gb275)); have n9_ := Aside0.mk ((by rw [hg]; exact Nat.ne_of_gt (blk_lt (g := gb274) (o := .cells #[.bool a1_0, .slice A1_1 l1_1.length c1_1] 25 (0, 0)) (by (with_reducible repeat (first | refine blk_drewN ?_ _ | refine blk_drew ?_ | refine blk_alloc ?_ _)); exact BK274.out)) : gb275 ≠ gb274)); clear BK273; clear BK274; clear HB; have BK273 := n0_; have BK274 := n1_; have HB := n2_; have BK275 := n3_; have GW275 := n4_; have GE275 := n5_; have NB273_275 := n6_; have NB275_273 := n7_; have NB274_275 := n8_; have NB275_274 := n9_; clear n0_ n1_ n2_ n3_ n4_ n5_ n6_ n7_ n8_ n9_; clear hb hbox hg))
  have n0_ := Aside0.mk (blk_drew BK273.out)
  have n1_ := Aside0.mk (blk_drew BK274.out)
  have n2_ := Aside0.mk (blk_drew BK275.out)
  have n3_ := Aside0.mk (below_drew1 HB.out)
  clear BK273
  clear BK274
  clear BK275
  clear HB
  have BK273 := n0_
  have BK274 := n1_
  have BK275 := n2_
  have HB := n3_
  clear n0_ n1_ n2_ n3_
  refine start_ (n := 13) (S := fun w' => w'.cell? ⟨gb273, 0, none⟩ = some (.bool a0_0) ∧ w'.cell? ⟨gb273, 1, none⟩ = some (.slice A0_1 l0_1.length c0_1) ∧ w'.cell? ⟨gb274, 0, none⟩ = some (.bool a1_0) ∧ w'.cell? ⟨gb274, 1, none⟩ = some (.slice A1_1 l1_1.length c1_1)) (ds := []) #[false, false, false, false, false, false, false, false, false, false, false, false, false] (by kernel_rfl) rfl rfl ⟨(blk_cell BK273.out 0).trans rfl, (blk_cell BK273.out 1).trans rfl, (blk_cell BK274.out 0).trans rfl, (blk_cell BK274.out 1).trans rfl⟩ (fun hHeld => ?_); refine with_tabW whole_Mul.tab1 whole_Mul.bits1 (fun HT_ HW_ => ?_)
  generalize w9.drew = w10 at BK273 BK274 BK275 HB hHeld ⊢
  refine pure_ (i := 6) (N := some 11) (v := ?_) (a' := ?_) #[false, false, false, false, false, false, true, false, false, false, false, false, false] rfl rfl (any_of HT_.out (by kernel_rfl)) (fun _ _ _ h => h) (Or.inl ⟨by rfl, ?_⟩) ?_ ?_
  rotate_left
  · intro w'
    go_simp
    with_reducible rfl
  rotate_left
  · simp only [Act.put, List.setIfInBounds_toArray, List.set_cons_zero, List.set_cons_succ, i64_w, i32_w]
    rfl
  refine pure_ (i := 8) (N := some 13) (v := ?_) (a' := ?_) #[false, false, false, false, false, false, true, false, true, false, false, false, false] rfl rfl (any_of HT_.out (by kernel_rfl)) (fun _ _ _ h => h) (Or.inl ⟨by rfl, ?_⟩) ?_ ?_
  rotate_left
  · intro w'
    go_simp
    with_reducible rfl
  rotate_left
  · simp only [Act.put, List.setIfInBounds_toArray, List.set_cons_zero, List.set_cons_succ, i64_w, i32_w]
    rfl
  refine take_ (i := 0) (N := some 5) (v := ?_) (a' := ?_) #[true, false, false, false, false, false, true, false, true, false, false, false, false] rfl rfl (take_ofW HT_.out HW_.out (by kernel_rfl)) (fun _ _ _ h => h) (Or.inl ⟨by rfl, ?_⟩) hHeld ?_ ?_
  rotate_left
  · rintro w' ⟨s0, s1, s2, s3⟩
    go_simp
    with_reducible rfl
  rotate_left
  · simp only [Act.put, List.setIfInBounds_toArray, List.set_cons_zero, List.set_cons_succ, i64_w, i32_w]
    rfl
  refine take_ (i := 2) (N := some 7) (v := ?_) (a' := ?_) #[true, false, true, false, false, false, true, false, true, false, false, false, false] rfl rfl (take_ofW HT_.out HW_.out (by kernel_rfl)) (fun _ _ _ h => h) (Or.inl ⟨by rfl, ?_⟩) hHeld ?_ ?_
  rotate_left
  · rintro w' ⟨s0, s1, s2, s3⟩
    go_simp
    with_reducible rfl
  rotate_left
  · simp only [Act.put, List.setIfInBounds_toArray, List.set_cons_zero, List.set_cons_succ, i64_w, i32_w]
    rfl
  refine take_ (i := 7) (N := some 12) (v := ?_) (a' := ?_) #[true, false, true, false, false, false, true, true, true, false, false, false, false] rfl rfl (take_ofW HT_.out HW_.out (by kernel_rfl)) (fun _ _ _ h => h) (Or.inl ⟨by rfl, ?_⟩) hHeld ?_ ?_
  rotate_left
  · rintro w' ⟨s0, s1, s2, s3⟩
    go_simp
    with_reducible rfl
  rotate_left
  · simp only [Act.put, List.setIfInBounds_toArray, List.set_cons_zero, List.set_cons_succ, i64_w, i32_w]
    rfl
  refine take_ (i := 9) (N := some 14) (v := ?_) (a' := ?_) #[true, false, true, false, false, false, true, true, true, true, false, false, false] rfl rfl (take_ofW HT_.out HW_.out (by kernel_rfl)) (fun _ _ _ h => h) (Or.inl ⟨by rfl, ?_⟩) hHeld ?_ ?_
  rotate_left
  · rintro w' ⟨s0, s1, s2, s3⟩
    go_simp
    with_reducible rfl
  rotate_left
  · simp only [Act.put, List.setIfInBounds_toArray, List.set_cons_zero, List.set_cons_succ, i64_w, i32_w]
    rfl
  refine one_ (i := 1) (N := some 6) #[true, true, true, false, false, false, true, true, true, true, false, false, false] rfl rfl (one_of HT_.out (by kernel_rfl)) (by decide) (fun K hK => ?_)
  refine goes_ Try.func31 (by kernel_rfl) rfl #[.agg #[.bool a0_0, .slice A0_1 l0_1.length c0_1]] (by rfl) rfl rfl (by (try simp only [List.map_toArray, List.map_cons, List.map_nil]); first | done | rfl | (simp only [List.length_drop, List.length_take]; rfl)) ?_
  with_reducible refine (whole_Sign.calls k a0_0 _ _ l0_1 t276 _ ?side1 ?side2 A3.out).mono ?_
  (case side1 => repeat (first | exact (Kd.C_below HR0_1.out HB.out) | (with_reducible refine Kd.C_alloc ?_ _) | (with_reducible refine Kd.C_drewN ?_ _) | (with_reducible refine Kd.C_drew ?_)))
  (case side2 => exact HC0_1.out)
  rintro e w11 ⟨rfl, hb⟩
  refine ⟨_, rfl, ?_⟩
  have n0_ := Aside0.mk (blk_below (g := gb273) (o := .cells #[.bool a0_0, .slice A0_1 l0_1.length c0_1] 25 (0, 0)) (by (with_reducible repeat (first | refine blk_drewN ?_ _ | refine blk_drew ?_ | refine blk_alloc ?_ _)); exact BK273.out) hb)
  have n1_ := Aside0.mk (blk_below (g := gb274) (o := .cells #[.bool a1_0, .slice A1_1 l1_1.length c1_1] 25 (0, 0)) (by (with_reducible repeat (first | refine blk_drewN ?_ _ | refine blk_drew ?_ | refine blk_alloc ?_ _)); exact BK274.out) hb)
  have n2_ := Aside0.mk (blk_below (g := gb275) (o := .cells #[.bool false, .slice none 0 0] 25 (0, 0)) (by (with_reducible repeat (first | refine blk_drewN ?_ _ | refine blk_drew ?_ | refine blk_alloc ?_ _)); exact BK275.out) hb)
  have n3_ := Aside0.mk (below_step (by repeat (first | (with_reducible first | exact HB.out | apply below_alloc | apply pw_below_drewN | apply below_drew1 | refine below_set ?_ GE273.out | refine below_set ?_ GE274.out | refine below_set ?_ GE275.out) | exact HB.out)) hb)
  clear BK273
  clear BK274
  clear BK275
  clear HB
  have BK273 := n0_
  have BK274 := n1_
  have BK275 := n2_
  have HB := n3_
  clear n0_ n1_ n2_ n3_
  (try clear hb)
  refine hK.out _ _ ⟨(blk_cell BK273.out 0).trans rfl, (blk_cell BK273.out 1).trans rfl, (blk_cell BK274.out 0).trans rfl, (blk_cell BK274.out 1).trans rfl⟩ (fun hHeld => ?_)
  clear hK K
  refine norm_ (a' := ?_) ?_ ?_
  rotate_left
  · show Act.put _ (some 6) _ = _
    simp only [Act.put, List.setIfInBounds_toArray, List.set_cons_zero, List.set_cons_succ, i64_w, i32_w]
    rfl
  refine one_ (i := 3) (N := some 8) #[true, true, true, true, false, false, true, true, true, true, false, false, false] rfl rfl (one_of HT_.out (by kernel_rfl)) (by decide) (fun K hK => ?_)
  refine goes_ Try.func31 (by kernel_rfl) rfl #[.agg #[.bool a1_0, .slice A1_1 l1_1.length c1_1]] (by rfl) rfl rfl (by (try simp only [List.map_toArray, List.map_cons, List.map_nil]); first | done | rfl | (simp only [List.length_drop, List.length_take]; rfl)) ?_
  with_reducible refine (whole_Sign.calls k a1_0 _ _ l1_1 t277 _ ?side1 ?side2 A4.out).mono ?_
  (case side1 => repeat (first | exact (Kd.C_below HR1_1.out HB.out) | (with_reducible refine Kd.C_alloc ?_ _) | (with_reducible refine Kd.C_drewN ?_ _) | (with_reducible refine Kd.C_drew ?_)))
  (case side2 => exact HC1_1.out)
  rintro e w12 ⟨rfl, hb⟩
  refine ⟨_, rfl, ?_⟩
  have n0_ := Aside0.mk (blk_below (g := gb273) (o := .cells #[.bool a0_0, .slice A0_1 l0_1.length c0_1] 25 (0, 0)) (by (with_reducible repeat (first | refine blk_drewN ?_ _ | refine blk_drew ?_ | refine blk_alloc ?_ _)); exact BK273.out) hb)
  have n1_ := Aside0.mk (blk_below (g := gb274) (o := .cells #[.bool a1_0, .slice A1_1 l1_1.length c1_1] 25 (0, 0)) (by (with_reducible repeat (first | refine blk_drewN ?_ _ | refine blk_drew ?_ | refine blk_alloc ?_ _)); exact BK274.out) hb)
  have n2_ := Aside0.mk (blk_below (g := gb275) (o := .cells #[.bool false, .slice none 0 0] 25 (0, 0)) (by (with_reducible repeat (first | refine blk_drewN ?_ _ | refine blk_drew ?_ | refine blk_alloc ?_ _)); exact BK275.out) hb)
  have n3_ := Aside0.mk (below_step (by repeat (first | (with_reducible first | exact HB.out | apply below_alloc | apply pw_below_drewN | apply below_drew1 | refine below_set ?_ GE273.out | refine below_set ?_ GE274.out | refine below_set ?_ GE275.out) | exact HB.out)) hb)
  clear BK273
  clear BK274
  clear BK275
  clear HB
  have BK273 := n0_
  have BK274 := n1_
  have BK275 := n2_
  have HB := n3_
  clear n0_ n1_ n2_ n3_
  (try clear hb)
  refine hK.out _ _ ⟨(blk_cell BK273.out 0).trans rfl, (blk_cell BK273.out 1).trans rfl, (blk_cell BK274.out 0).trans rfl, (blk_cell BK274.out 1).trans rfl⟩ (fun hHeld => ?_)
  clear hK K
  refine norm_ (a' := ?_) ?_ ?_
  rotate_left
  · show Act.put _ (some 8) _ = _
    simp only [Act.put, List.setIfInBounds_toArray, List.set_cons_zero, List.set_cons_succ, i64_w, i32_w]
    rfl
  refine pure_ (i := 4) (N := some 9) (v := ?_) (a' := ?_) #[true, true, true, true, true, false, true, true, true, true, false, false, false] rfl rfl (any_of HT_.out (by kernel_rfl)) (fun _ _ _ h => h) (Or.inl ⟨by rfl, ?_⟩) ?_ ?_
  rotate_left
  · intro w'
    go_simp
    with_reducible rfl
  rotate_left
  · simp only [Act.put, List.setIfInBounds_toArray, List.set_cons_zero, List.set_cons_succ, i64_w, i32_w]
    rfl
  refine pure_ (i := 5) (N := some 10) (v := ?_) (a' := ?_) #[true, true, true, true, true, true, true, true, true, true, false, false, false] rfl rfl (any_of HT_.out (by kernel_rfl)) (fun _ _ _ h => h) (Or.inl ⟨by rfl, ?_⟩) ?_ ?_
  rotate_left
  · intro w'
    go_simp
    with_reducible rfl
  rotate_left
  · simp only [Act.put, List.setIfInBounds_toArray, List.set_cons_zero, List.set_cons_succ, i64_w, i32_w]
    rfl
  refine one_ (i := 10) (N := some 15) #[true, true, true, true, true, true, true, true, true, true, true, false, false] rfl rfl (one_of HT_.out (by kernel_rfl)) (by decide) (fun K hK => ?_)
  refine goes_ Try.func78 (by kernel_rfl) rfl #[.slice A0_1 l0_1.length c0_1, .slice A1_1 l1_1.length c1_1] (by rfl) rfl rfl (by (try simp only [List.map_toArray, List.map_cons, List.map_nil]); first | done | rfl | (simp only [List.length_drop, List.length_take]; rfl)) ?_
  with_reducible refine (nat_Mul.calls k _ _ l0_1 _ _ l1_1 t278 _ ?side1 ?side2 ?side3 ?side4 A5.out).mono ?_
  (case side1 => repeat (first | exact (Kd.C_below HR0_1.out HB.out) | (with_reducible refine Kd.C_alloc ?_ _) | (with_reducible refine Kd.C_drewN ?_ _) | (with_reducible refine Kd.C_drew ?_)))
  (case side2 => exact HC0_1.out)
  (case side3 => repeat (first | exact (Kd.C_below HR1_1.out HB.out) | (with_reducible refine Kd.C_alloc ?_ _) | (with_reducible refine Kd.C_drewN ?_ _) | (with_reducible refine Kd.C_drew ?_)))
  (case side4 => exact HC1_1.out)
  rintro e w13 ⟨v279, rfl, ho0, hb⟩
  refine ⟨_, rfl, ?_⟩
  have n0_ := Aside0.mk (Kd.R_lower ho0 (below_size (by repeat (first | (with_reducible first | exact HB.out | apply below_alloc | apply pw_below_drewN | apply below_drew1 | refine below_set ?_ GE273.out | refine below_set ?_ GE274.out | refine below_set ?_ GE275.out) | exact HB.out))))
  have n1_ := Aside0.mk (blk_below (g := gb273) (o := .cells #[.bool a0_0, .slice A0_1 l0_1.length c0_1] 25 (0, 0)) (by (with_reducible repeat (first | refine blk_drewN ?_ _ | refine blk_drew ?_ | refine blk_alloc ?_ _)); exact BK273.out) hb)
  have n2_ := Aside0.mk (blk_below (g := gb274) (o := .cells #[.bool a1_0, .slice A1_1 l1_1.length c1_1] 25 (0, 0)) (by (with_reducible repeat (first | refine blk_drewN ?_ _ | refine blk_drew ?_ | refine blk_alloc ?_ _)); exact BK274.out) hb)
  have n3_ := Aside0.mk (blk_below (g := gb275) (o := .cells #[.bool false, .slice none 0 0] 25 (0, 0)) (by (with_reducible repeat (first | refine blk_drewN ?_ _ | refine blk_drew ?_ | refine blk_alloc ?_ _)); exact BK275.out) hb)
  have n4_ := Aside0.mk (below_step (by repeat (first | (with_reducible first | exact HB.out | apply below_alloc | apply pw_below_drewN | apply below_drew1 | refine below_set ?_ GE273.out | refine below_set ?_ GE274.out | refine below_set ?_ GE275.out) | exact HB.out)) hb)
  clear BK273
  clear BK274
  clear BK275
  clear HB
  have HO280 := n0_
  have BK273 := n1_
  have BK274 := n2_
  have BK275 := n3_
  have HB := n4_
  clear n0_ n1_ n2_ n3_ n4_
  (try clear hb)
  (try clear ho0)
  obtain ⟨Ao14, co14, eo14⟩ := Kd.R_slice HO280.out
  (first | subst eo14 | (injection eo14 with f1_ f2_ f3_; have f4_ := f1_.symm; have f5_ := f3_.symm; clear f1_ f2_ f3_; subst f4_; subst f5_))
  refine hK.out _ _ ⟨(blk_cell BK273.out 0).trans rfl, (blk_cell BK273.out 1).trans rfl, (blk_cell BK274.out 0).trans rfl, (blk_cell BK274.out 1).trans rfl⟩ (fun hHeld => ?_)
  clear hK K
  refine norm_ (a' := ?_) ?_ ?_
  rotate_left
  · show Act.put _ (some 15) _ = _
    simp only [Act.put, List.setIfInBounds_toArray, List.set_cons_zero, List.set_cons_succ, i64_w, i32_w]
    rfl
  refine one_ (i := 11) (N := some 16) #[true, true, true, true, true, true, true, true, true, true, true, true, false] rfl rfl (one_of HT_.out (by kernel_rfl)) (by decide) (fun K hK => ?_)
  refine goes_ Try.func33 (by kernel_rfl) rfl #[.bool (decide ((wrap64 (t276 * t277)) < 0)), .slice Ao14 t278.length co14] (by rfl) rfl rfl (by (try simp only [List.map_toArray, List.map_cons, List.map_nil]); first | done | rfl | (simp only [List.length_drop, List.length_take]; rfl)) ?_
  with_reducible refine (whole_Make.calls k (decide ((wrap64 (t276 * t277)) < 0)) _ _ t278 t281 t282 _ ?side1 ?side2 A6.out).mono ?_
  (case side1 => repeat (first | exact (Kd.R_reads' HO280.out).2.2 | (with_reducible refine Kd.C_alloc ?_ _) | (with_reducible refine Kd.C_drewN ?_ _) | (with_reducible refine Kd.C_drew ?_)))
  (case side2 => exact (Kd.R_reads' HO280.out).2.1)
  rintro e w15 ⟨v283, rfl, ho0, hb⟩
  refine ⟨_, rfl, ?_⟩
  have n0_ := Aside0.mk (Kd.R_elder' (by (with_reducible repeat (first | apply Kd.R_alloc | apply Kd.R_drewN | apply Kd.R_drew)); exact HO280.out) (Kd.R_base ho0) hb)
  have n1_ := Aside0.mk (Kd.R_lower (Kd.R_new' ho0 (Kd.R_lt (by (with_reducible repeat (first | apply Kd.R_alloc | apply Kd.R_drewN | apply Kd.R_drew)); exact HO280.out))) (below_size (by repeat (first | (with_reducible first | exact HB.out | apply below_alloc | apply pw_below_drewN | apply below_drew1 | refine below_set ?_ GE273.out | refine below_set ?_ GE274.out | refine below_set ?_ GE275.out) | exact HB.out))))
  have n2_ := Aside0.mk (blk_below (g := gb273) (o := .cells #[.bool a0_0, .slice A0_1 l0_1.length c0_1] 25 (0, 0)) (by (with_reducible repeat (first | refine blk_drewN ?_ _ | refine blk_drew ?_ | refine blk_alloc ?_ _)); exact BK273.out) hb)
  have n3_ := Aside0.mk (blk_below (g := gb274) (o := .cells #[.bool a1_0, .slice A1_1 l1_1.length c1_1] 25 (0, 0)) (by (with_reducible repeat (first | refine blk_drewN ?_ _ | refine blk_drew ?_ | refine blk_alloc ?_ _)); exact BK274.out) hb)
  have n4_ := Aside0.mk (blk_below (g := gb275) (o := .cells #[.bool false, .slice none 0 0] 25 (0, 0)) (by (with_reducible repeat (first | refine blk_drewN ?_ _ | refine blk_drew ?_ | refine blk_alloc ?_ _)); exact BK275.out) hb)
  have n5_ := Aside0.mk (below_step (by repeat (first | (with_reducible first | exact HB.out | apply below_alloc | apply pw_below_drewN | apply below_drew1 | refine below_set ?_ GE273.out | refine below_set ?_ GE274.out | refine below_set ?_ GE275.out) | exact HB.out)) hb)
  clear HO280
  clear BK273
  clear BK274
  clear BK275
  clear HB
  have HO280 := n0_
  have HO284 := n1_
  have BK273 := n2_
  have BK274 := n3_
  have BK275 := n4_
  have HB := n5_
  clear n0_ n1_ n2_ n3_ n4_ n5_
  (try clear hb)
  (try clear ho0)
  obtain ⟨Ao17, co17, eo17⟩ := Kd.R_slice HO284.out
  (first | subst eo17 | (injection eo17 with f1_ f2_ f3_; have f4_ := f1_.symm; have f5_ := f3_.symm; clear f1_ f2_ f3_; subst f4_; subst f5_))
  refine hK.out _ _ ⟨(blk_cell BK273.out 0).trans rfl, (blk_cell BK273.out 1).trans rfl, (blk_cell BK274.out 0).trans rfl, (blk_cell BK274.out 1).trans rfl⟩ (fun hHeld => ?_)
  clear hK K
  refine norm_ (a' := ?_) ?_ ?_
  rotate_left
  · show Act.put _ (some 16) _ = _
    simp only [Act.put, List.setIfInBounds_toArray, List.set_cons_zero, List.set_cons_succ, i64_w, i32_w]
    rfl
  refine one_ (i := 12) (N := none) #[true, true, true, true, true, true, true, true, true, true, true, true, true] rfl rfl (one_of HT_.out (by kernel_rfl)) (by decide) (fun K hK => ?_)
  have hs16 : w15.cell? ⟨gb275, 0, none⟩ = some (.bool false) := (blk_cell BK275.out 0).trans rfl
  have hfs16 := blk_frozen BK275.out 0
  have hns16_0 := NB273_275.out
  have hns16_1 := NB274_275.out
  have hms16_0 := NB275_273.out
  have hms16_1 := NB275_274.out
  have hs18 : w15.cell? ⟨gb275, 1, none⟩ = some (.slice none 0 0) := (blk_cell BK275.out 1).trans rfl
  have hfs18 := blk_frozen BK275.out 1
  have hns18_0 := NB273_275.out
  have hns18_1 := NB274_275.out
  have hms18_0 := NB275_273.out
  have hms18_1 := NB275_274.out
  refine skip_ (w1 := ?_) (by rfl) rfl ?_ ?_
  rotate_left
  · go_simp
    rfl
  refine hK.out _ _ ⟨((cell_far (p := ⟨gb275, _, none⟩) NB273_275.out _).trans (((cell_far (p := ⟨gb275, _, none⟩) NB273_275.out _).trans (hHeld.1)))), ((cell_far (p := ⟨gb275, _, none⟩) NB273_275.out _).trans (((cell_far (p := ⟨gb275, _, none⟩) NB273_275.out _).trans (hHeld.2.1)))), ((cell_far (p := ⟨gb275, _, none⟩) NB274_275.out _).trans (((cell_far (p := ⟨gb275, _, none⟩) NB274_275.out _).trans (hHeld.2.2.1)))), ((cell_far (p := ⟨gb275, _, none⟩) NB274_275.out _).trans (((cell_far (p := ⟨gb275, _, none⟩) NB274_275.out _).trans (hHeld.2.2.2))))⟩ (fun hHeld => ?_)
  clear hK K
  refine done_ (done_of HT_.out (by kernel_rfl)) ?_
  try go_wp2
  refine bodyPost_ret (results_cell_row rfl _ _ gb275 25 #[.bool t281, .slice Ao17 t282.length co17] (0, 0) _ rfl (by (with_reducible repeat (first | refine blk_drewN ?_ _ | refine blk_drew ?_ | refine blk_alloc ?_ _)); refine blk_put (cs := #[.bool t281, .slice none 0 0]) ?_ 1 _ rfl; (with_reducible repeat (first | refine blk_drewN ?_ _ | refine blk_drew ?_ | refine blk_alloc ?_ _)); refine blk_put (cs := #[.bool false, .slice none 0 0]) ?_ 0 _ rfl; (with_reducible repeat (first | refine blk_drewN ?_ _ | refine blk_drew ?_ | refine blk_alloc ?_ _)); exact BK275.out) Try.underlying25 rfl (by kernel_rfl)) rfl ?_
  exact ⟨_, by first | rfl | (simp [errW_none, errW_some] <;> rfl) | (simp [*, errW_none, errW_some] <;> rfl), by (with_reducible repeat (first | apply Kd.R_alloc | apply Kd.R_drewN | apply Kd.R_drew)); exact Kd.R_mono (Kd.R_far (p := ⟨gb275, 1, none⟩) (Kd.R_far (p := ⟨gb275, 0, none⟩) (Kd.R_types HO284.out BK275.out (by decide)) (fun _ hk => hk.2) (.bool t281)) (fun _ hk => hk.2) (.slice Ao17 t282.length co17)) (fun _ hk => trivial), by repeat (first | (with_reducible first | exact HB.out | apply below_alloc | apply pw_below_drewN | apply below_drew1 | refine below_set ?_ GE273.out | refine below_set ?_ GE274.out | refine below_set ?_ GE275.out) | exact HB.out)⟩

theorem whole_Mul.ev {m m' : Bool} {l l' : List Int} {a b : Int} {K J : Nat} (ha : Zn.Is m l a K) (hb : Zn.Is m' l' b J) (hK : K + J < 1000000) : Ev (fun k => whole_Mul.f k m l m' l') (Zn.zd (a * b)) := by
  have M := nat_Mul.ev (ha.ok (by omega)) (hb.ok (by omega))
  rw [← ha.abs, ← hb.abs] at M
  unfold whole_Mul.f
  refine Ev.bind (whole_Sign.ev ha (by omega)) (Ev.bind (whole_Sign.ev hb (by omega)) (Ev.bind M ?_))
  have d : decide (wrap64 (a.sign * b.sign) < 0) = decide (a * b < 0) := by rw [Zn.w64_sign]; exact decide_eq_decide.2 (Zn.sign_mul_neg a b)
  have R := whole_Make.ev (Zn.Is.nd (m := decide (a * b < 0)) (Num.mul_lt ha.lt hb.lt)) hK
  rw [Zn.mul_sign] at R
  refine Ev.congr (fun k => ?_) (Ev.bind R (Ev.now _))
  rw [d]

end Go.Proofs.Ytjpkljkkcbaohaa.PR

end
section
namespace Go.Proofs.Ytjpkljkkcbaohaa.PR
open Go.RowKit Go.Proofs.YtjpkljkkcbaohaaW.PrintWords Go.Proofs.YtjpkljkkcbaohaaW.PrintLast Go.Proofs.YtjpkljkkcbaohaaW.PrintMore
attribute [local go_sem] max2_int min2_int max_two min_two max_three min_three max_four min_four   -- for this text's walks alone
set_option linter.unusedVariables false
set_option linter.unusedSimpArgs false

/-! ### whole_Floor_cl1: function 83 -/
def whole_Floor_cl1.f (k : Nat) (a0_0 : Bool) (l0_1 : List Int) (a1_0 : Bool) (l1_1 : List Int) (a2_0 : Bool) (l2_1 : List Int) : Option (Bool × List Int) := (whole_Mul.f k a1_0 l1_1 a2_0 l2_1).bind fun bt289 => ((whole_Sub.f k a0_0 l0_1 bt289.1 bt289.2).bind fun bt293 => (some (bt293.1, bt293.2)))
theorem whole_Floor_cl1.mono : ∀ a0 a1 a2 a3 a4 a5 k, LeO (whole_Floor_cl1.f k a0 a1 a2 a3 a4 a5) (whole_Floor_cl1.f (k + 1) a0 a1 a2 a3 a4 a5) := by
  intro a0 a1 a2 a3 a4 a5 k
  unfold whole_Floor_cl1.f
  repeat' first
      | (with_reducible exact whole_Mul.mono _ _ _ _ _)
      | (with_reducible exact whole_Sub.mono _ _ _ _ _)
      | (with_reducible exact LeO.refl _)
      | (with_reducible exact LeO.none _)
      | (with_reducible refine LeO.ite ?_ ?_)
      | (with_reducible refine LeO.bind ?_ (fun _ => ?_))
      | exact whole_Mul.mono _ _ _ _ _
      | exact whole_Sub.mono _ _ _ _ _
      | exact LeO.none _
      | refine LeO.ite ?_ ?_
      | refine LeO.bind ?_ (fun _ => ?_)
set_option maxHeartbeats 8000000 in
set_option maxRecDepth 100000 in
theorem whole_Floor_cl1.calls (k : Nat) (g0 g1 g2 : Nat) (a0_0 : Bool) (A0_1 : Option Addr) (c0_1 : Nat) (l0_1 : List Int) (a1_0 : Bool) (A1_1 : Option Addr) (c1_1 : Nat) (l1_1 : List Int) (a2_0 : Bool) (A2_1 : Option Addr) (c2_1 : Nat) (l2_1 : List Int) (r1 : Bool) (r2 : List Int) (w : World) (hr0_1 : Kd.C (Kd.int .u32) w A0_1 l0_1.length l0_1) (hc0_1 : l0_1.length ≤ c0_1) (hr1_1 : Kd.C (Kd.int .u32) w A1_1 l1_1.length l1_1) (hc1_1 : l1_1.length ≤ c1_1) (hr2_1 : Kd.C (Kd.int .u32) w A2_1 l2_1.length l2_1) (hc2_1 : l2_1.length ≤ c2_1) (hg0 : w.heap[g0]? = some (.cells #[.bool a0_0, .slice A0_1 l0_1.length c0_1] 25 (0, 0))) (hg1 : w.heap[g1]? = some (.cells #[.bool a1_0, .slice A1_1 l1_1.length c1_1] 25 (0, 0))) (hg2 : w.heap[g2]? = some (.cells #[.bool a2_0, .slice A2_1 l2_1.length c2_1] 25 (0, 0))) (h : whole_Floor_cl1.f k a0_0 l0_1 a1_0 l1_1 a2_0 l2_1 = some (r1, r2)) :
    Calls Try.prog 83 #[.pointer (some ⟨g0, 0, none⟩), .pointer (some ⟨g1, 0, none⟩), .pointer (some ⟨g2, 0, none⟩)] w fun e w' => ∃ v1_ : Value, e = .returned (.agg #[.bool r1, v1_]) ∧ Kd.R (Kd.int .u32) 37 w' w.heap.size (fun _ => True) v1_ r2 ∧ Below w.heap.size w w' := by
  have hu25 := Try.underlying25
  have HR0_1 := Aside0.mk hr0_1
  have HC0_1 := Aside0.mk hc0_1
  clear hr0_1 hc0_1
  have HR1_1 := Aside0.mk hr1_1
  have HC1_1 := Aside0.mk hc1_1
  clear hr1_1 hc1_1
  have HR2_1 := Aside0.mk hr2_1
  have HC2_1 := Aside0.mk hc2_1
  clear hr2_1 hc2_1
  have HB := Aside0.mk (Below.refl w.heap.size w)
  have H : ((whole_Mul.f k a1_0 l1_1 a2_0 l2_1).bind fun bt289 => ((whole_Sub.f k a0_0 l0_1 bt289.1 bt289.2).bind fun bt293 => (some (bt293.1, bt293.2)))) = some (r1, r2) := h
  clear h
  replace H := Option.bind_eq_some_iff.mp H
  obtain ⟨⟨t289, t290⟩, A40, H⟩ := H
  replace H : ((whole_Sub.f k a0_0 l0_1 t289 t290).bind fun bt293 => (some (bt293.1, bt293.2))) = some (r1, r2) := H
  have A4 := Aside0.mk A40
  clear A40
  replace H := Option.bind_eq_some_iff.mp H
  obtain ⟨⟨t293, t294⟩, A50, H⟩ := H
  replace H : (some (t293, t294)) = some (r1, r2) := H
  have A5 := Aside0.mk A50
  clear A50
  simp only [Option.some.injEq, Prod.mk.injEq] at H
  obtain ⟨rfl, rfl⟩ := H
  have BK285 := Aside0.mk hg0
  have BK286 := Aside0.mk hg1
  have BK287 := Aside0.mk hg2
  clear hg0 hg1 hg2
  go_enter Try.func83, Try.ntmps83
  go_wp2_with (first | ((with_reducible refine gate_dst (N := 3) rfl ?_); refine box_event ?hg (N := 3) ?hd (cs := #[.bool false, .slice none 0 0]) (t := 25) ?hr ?_; (case hd => rfl); (case hg => rfl); (case hr => first | (go_simp; done) | (go_simp; rfl)); intro gb288 hg w9 hbox hb; have n0_ := Aside0.mk (blk_below (g := g0) (o := .cells #[.bool a0_0, .slice A0_1 l0_1.length c0_1] 25 (0, 0)) (by (with_reducible repeat (first | refine blk_drewN ?_ _ | refine blk_drew ?_ | refine blk_alloc ?_ _)); exact BK285.out) hb); have n1_ := Aside0.mk (blk_below (g := g1) (o := .cells #[.bool a1_0, .slice A1_1 l1_1.length c1_1] 25 (0, 0)) (by (with_reducible repeat (first | refine blk_drewN ?_ _ | refine blk_drew ?_ | refine blk_alloc ?_ _)); exact BK286.out) hb); have n2_ := Aside0.mk (blk_below (g := g2) (o := .cells #[.bool a2_0, .slice A2_1 l2_1.length c2_1] 25 (0, 0)) (by (with_reducible repeat (first | refine blk_drewN ?_ _ | refine blk_drew ?_ | refine blk_alloc ?_ _)); exact BK287.out) hb); have n3_ := Aside0.mk (below_step (by repeat (first | (with_reducible first | exact HB.out | apply below_alloc | apply pw_below_drewN | apply below_drew1 | refine below_set ?_ GE285.out | refine below_set ?_ GE286.out | refine below_set ?_ GE287.out) | exact HB.out)) hb); have n4_ := Aside0.mk (hbox); have n5_ := Aside0.mk ((by rw [hg]; exact (below_size (by repeat (first | (with_reducible first | exact HB.out | apply below_alloc | apply pw_below_drewN | apply below_drew1 | refine below_set ?_ GE285.out | refine below_set ?_ GE286.out | refine below_set ?_ GE287.out) | exact HB.out))) : w.heap.size ≤ gb288)); have n6_ := Aside0.mk ((by rw [hg]; exact (below_size (by repeat (first | (with_reducible first | exact HB.out | apply below_alloc | apply pw_below_drewN | apply below_drew1 | refine below_set ?_ GE285.out | refine below_set ?_ GE286.out | refine below_set ?_ GE287.out) | exact HB.out))) : w.heap.size ≤ gb288)); have n7_ := Aside0.mk ((by rw [hg]; exact Nat.ne_of_lt (blk_lt (g := g0) (o := .cells #[.bool a0_0, .slice A0_1 l0_1.length c0_1] 25 (0, 0)) (by (with_reducible repeat (first | refine blk_drewN ?_ _ | refine blk_drew ?_ | refine blk_alloc ?_ _)); exact BK285.out)) : g0 ≠ gb288)); have n8_ := Aside0.mk ((by rw [hg]; exact Nat.ne_of_gt (blk_lt (g := g0) (o := .cells #[.bool a0_0, .slice A0_1 l0_1.length c0_1] 25 (0, 0)) (by (with_reducible repeat (first | refine blk_drewN ?_ _ | refine blk_drew ?_ | refine blk_alloc ?_ _)); exact BK285.out)) : gb288 ≠ g0)); have n9_ := Aside0.mk ((by rw [hg]; exact Nat.ne_of_lt (blk_lt (g := g1) (o := .cells #[.bool a1_0, .slice A1_1 l1_1.length c1_1] 25 (0, 0)) (by (with_reducible repeat (first | refine blk_drewN ?_ _ | refine blk_drew ?_ | refine blk_alloc ?_ _)); exact BK286.out)) : g1 ≠ gb288)); have n10_ := Aside0.mk ((by rw [hg]; exact Nat.ne_of_gt (blk_lt (g := g1) (o := .cells #[.bool a1_0, .slice A1_1 l1_1.length c1_1] 25 (0, 0)) (by (with_reducible repeat (first | refine blk_drewN ?_ _ | refine blk_drew ?_ | refine blk_alloc ?_ _)); exact BK286.out)) : gb288 ≠ g1)); have n11_ := Aside0.mk ((by rw [hg]; exact Nat.ne_of_lt (blk_lt (g := g2) (o := .cells #[.bool a2_0, .slice A2_1 l2_1.length c2_1] 25 (0, 0)) (by (with_reducible repeat (first | refine blk_drewN ?_ _ | refine blk_drew ?_ | refine blk_alloc ?_ _)); exact BK287.out)) : g2 ≠ gb288)); have n12_ := Aside0.mk ((by rw [hg]; exact Nat.ne_of_gt (blk_lt (g := g2) (o := .cells #[.bool a2_0, .slice A2_1 l2_1.length c2_1] 25 (0, 0)) (by (with_reducible repeat (first | refine blk_drewN ?_ _ | refine blk_drew ?_ | refine blk_alloc ?_ _)); exact BK287.out)) : gb288 ≠ g2)); clear BK285; clear BK286; clear BK287; clear HB; have BK285 := n0_; have BK286 := n1_; have BK287 := n2_; have HB := n3_; have BK288 := n4_; have GW288 := n5_; have GE288 := n6_; have NB285_288 := n7_; have NB288_285 := n8_; have NB286_288 := n9_; have NB288_286 := n10_; have NB287_288 := n11_; have NB288_287 := n12_; clear n0_ n1_ n2_ n3_ n4_ n5_ n6_ n7_ n8_ n9_ n10_ n11_ n12_; clear hb hbox hg))
  have n0_ := Aside0.mk (blk_drew BK285.out)
  have n1_ := Aside0.mk (blk_drew BK286.out)
  have n2_ := Aside0.mk (blk_drew BK287.out)
  have n3_ := Aside0.mk (blk_drew BK288.out)
  have n4_ := Aside0.mk (below_drew1 HB.out)
  clear BK285
  clear BK286
  clear BK287
  clear BK288
  clear HB
  have BK285 := n0_
  have BK286 := n1_
  have BK287 := n2_
  have BK288 := n3_
  have HB := n4_
  clear n0_ n1_ n2_ n3_ n4_
  refine start_ (n := 6) (S := fun w' => w'.cell? ⟨g0, 0, none⟩ = some (.bool a0_0) ∧ w'.cell? ⟨g0, 1, none⟩ = some (.slice A0_1 l0_1.length c0_1) ∧ w'.cell? ⟨g1, 0, none⟩ = some (.bool a1_0) ∧ w'.cell? ⟨g1, 1, none⟩ = some (.slice A1_1 l1_1.length c1_1) ∧ w'.cell? ⟨g2, 0, none⟩ = some (.bool a2_0) ∧ w'.cell? ⟨g2, 1, none⟩ = some (.slice A2_1 l2_1.length c2_1)) (ds := []) #[false, false, false, false, false, false] (by kernel_rfl) rfl rfl ⟨(blk_cell BK285.out 0).trans rfl, (blk_cell BK285.out 1).trans rfl, (blk_cell BK286.out 0).trans rfl, (blk_cell BK286.out 1).trans rfl, (blk_cell BK287.out 0).trans rfl, (blk_cell BK287.out 1).trans rfl⟩ (fun hHeld => ?_)
  generalize w9.drew = w10 at BK285 BK286 BK287 BK288 HB hHeld ⊢
  refine take_ (i := 0) (N := some 4) (v := ?_) (a' := ?_) #[true, false, false, false, false, false] rfl rfl (by kernel_rfl) (fun _ _ _ h => h) (Or.inl ⟨by rfl, ?_⟩) hHeld ?_ ?_
  rotate_left
  · rintro w' ⟨s0, s1, s2, s3, s4, s5⟩
    go_simp
    with_reducible rfl
  rotate_left
  · simp only [Act.put, List.setIfInBounds_toArray, List.set_cons_zero, List.set_cons_succ, i64_w, i32_w]
    rfl
  refine take_ (i := 1) (N := some 5) (v := ?_) (a' := ?_) #[true, true, false, false, false, false] rfl rfl (by kernel_rfl) (fun _ _ _ h => h) (Or.inl ⟨by rfl, ?_⟩) hHeld ?_ ?_
  rotate_left
  · rintro w' ⟨s0, s1, s2, s3, s4, s5⟩
    go_simp
    with_reducible rfl
  rotate_left
  · simp only [Act.put, List.setIfInBounds_toArray, List.set_cons_zero, List.set_cons_succ, i64_w, i32_w]
    rfl
  refine take_ (i := 2) (N := some 6) (v := ?_) (a' := ?_) #[true, true, true, false, false, false] rfl rfl (by kernel_rfl) (fun _ _ _ h => h) (Or.inl ⟨by rfl, ?_⟩) hHeld ?_ ?_
  rotate_left
  · rintro w' ⟨s0, s1, s2, s3, s4, s5⟩
    go_simp
    with_reducible rfl
  rotate_left
  · simp only [Act.put, List.setIfInBounds_toArray, List.set_cons_zero, List.set_cons_succ, i64_w, i32_w]
    rfl
  refine one_ (i := 3) (N := some 7) #[true, true, true, true, false, false] rfl rfl (by kernel_rfl) (by decide) (fun K hK => ?_)
  refine goes_ Try.func25 (by kernel_rfl) rfl #[.agg #[.bool a1_0, .slice A1_1 l1_1.length c1_1], .agg #[.bool a2_0, .slice A2_1 l2_1.length c2_1]] (by rfl) rfl rfl (by (try simp only [List.map_toArray, List.map_cons, List.map_nil]); first | done | rfl | (simp only [List.length_drop, List.length_take]; rfl)) ?_
  with_reducible refine (whole_Mul.calls k a1_0 _ _ l1_1 a2_0 _ _ l2_1 t289 t290 _ ?side1 ?side2 ?side3 ?side4 A4.out).mono ?_
  (case side1 => repeat (first | exact (Kd.C_below HR1_1.out HB.out) | (with_reducible refine Kd.C_alloc ?_ _) | (with_reducible refine Kd.C_drewN ?_ _) | (with_reducible refine Kd.C_drew ?_)))
  (case side2 => exact HC1_1.out)
  (case side3 => repeat (first | exact (Kd.C_below HR2_1.out HB.out) | (with_reducible refine Kd.C_alloc ?_ _) | (with_reducible refine Kd.C_drewN ?_ _) | (with_reducible refine Kd.C_drew ?_)))
  (case side4 => exact HC2_1.out)
  rintro e w11 ⟨v291, rfl, ho0, hb⟩
  refine ⟨_, rfl, ?_⟩
  have n0_ := Aside0.mk (Kd.R_lower ho0 (below_size (by repeat (first | (with_reducible first | exact HB.out | apply below_alloc | apply pw_below_drewN | apply below_drew1 | refine below_set ?_ GE285.out | refine below_set ?_ GE286.out | refine below_set ?_ GE287.out | refine below_set ?_ GE288.out) | exact HB.out))))
  have n1_ := Aside0.mk (blk_below (g := g0) (o := .cells #[.bool a0_0, .slice A0_1 l0_1.length c0_1] 25 (0, 0)) (by (with_reducible repeat (first | refine blk_drewN ?_ _ | refine blk_drew ?_ | refine blk_alloc ?_ _)); exact BK285.out) hb)
  have n2_ := Aside0.mk (blk_below (g := g1) (o := .cells #[.bool a1_0, .slice A1_1 l1_1.length c1_1] 25 (0, 0)) (by (with_reducible repeat (first | refine blk_drewN ?_ _ | refine blk_drew ?_ | refine blk_alloc ?_ _)); exact BK286.out) hb)
  have n3_ := Aside0.mk (blk_below (g := g2) (o := .cells #[.bool a2_0, .slice A2_1 l2_1.length c2_1] 25 (0, 0)) (by (with_reducible repeat (first | refine blk_drewN ?_ _ | refine blk_drew ?_ | refine blk_alloc ?_ _)); exact BK287.out) hb)
  have n4_ := Aside0.mk (blk_below (g := gb288) (o := .cells #[.bool false, .slice none 0 0] 25 (0, 0)) (by (with_reducible repeat (first | refine blk_drewN ?_ _ | refine blk_drew ?_ | refine blk_alloc ?_ _)); exact BK288.out) hb)
  have n5_ := Aside0.mk (below_step (by repeat (first | (with_reducible first | exact HB.out | apply below_alloc | apply pw_below_drewN | apply below_drew1 | refine below_set ?_ GE285.out | refine below_set ?_ GE286.out | refine below_set ?_ GE287.out | refine below_set ?_ GE288.out) | exact HB.out)) hb)
  clear BK285
  clear BK286
  clear BK287
  clear BK288
  clear HB
  have HO292 := n0_
  have BK285 := n1_
  have BK286 := n2_
  have BK287 := n3_
  have BK288 := n4_
  have HB := n5_
  clear n0_ n1_ n2_ n3_ n4_ n5_
  (try clear hb)
  (try clear ho0)
  obtain ⟨Ao12, co12, eo12⟩ := Kd.R_slice HO292.out
  (first | subst eo12 | (injection eo12 with f1_ f2_ f3_; have f4_ := f1_.symm; have f5_ := f3_.symm; clear f1_ f2_ f3_; subst f4_; subst f5_))
  refine hK.out _ _ ⟨(blk_cell BK285.out 0).trans rfl, (blk_cell BK285.out 1).trans rfl, (blk_cell BK286.out 0).trans rfl, (blk_cell BK286.out 1).trans rfl, (blk_cell BK287.out 0).trans rfl, (blk_cell BK287.out 1).trans rfl⟩ (fun hHeld => ?_)
  clear hK K
  refine norm_ (a' := ?_) ?_ ?_
  rotate_left
  · show Act.put _ (some 7) _ = _
    simp only [Act.put, List.setIfInBounds_toArray, List.set_cons_zero, List.set_cons_succ, i64_w, i32_w]
    rfl
  refine one_ (i := 4) (N := some 8) #[true, true, true, true, true, false] rfl rfl (by kernel_rfl) (by decide) (fun K hK => ?_)
  refine goes_ Try.func23 (by kernel_rfl) rfl #[.agg #[.bool a0_0, .slice A0_1 l0_1.length c0_1], .agg #[.bool t289, .slice Ao12 t290.length co12]] (by rfl) rfl rfl (by (try simp only [List.map_toArray, List.map_cons, List.map_nil]); first | done | rfl | (simp only [List.length_drop, List.length_take]; rfl)) ?_
  with_reducible refine (whole_Sub.calls k a0_0 _ _ l0_1 t289 _ _ t290 t293 t294 _ ?side1 ?side2 ?side3 ?side4 A5.out).mono ?_
  (case side1 => repeat (first | exact (Kd.C_below HR0_1.out HB.out) | (with_reducible refine Kd.C_alloc ?_ _) | (with_reducible refine Kd.C_drewN ?_ _) | (with_reducible refine Kd.C_drew ?_)))
  (case side2 => exact HC0_1.out)
  (case side3 => repeat (first | exact (Kd.R_reads' HO292.out).2.2 | (with_reducible refine Kd.C_alloc ?_ _) | (with_reducible refine Kd.C_drewN ?_ _) | (with_reducible refine Kd.C_drew ?_)))
  (case side4 => exact (Kd.R_reads' HO292.out).2.1)
  rintro e w13 ⟨v295, rfl, ho0, hb⟩
  refine ⟨_, rfl, ?_⟩
  have n0_ := Aside0.mk (Kd.R_elder' (by (with_reducible repeat (first | apply Kd.R_alloc | apply Kd.R_drewN | apply Kd.R_drew)); exact HO292.out) (Kd.R_base ho0) hb)
  have n1_ := Aside0.mk (Kd.R_lower (Kd.R_new' ho0 (Kd.R_lt (by (with_reducible repeat (first | apply Kd.R_alloc | apply Kd.R_drewN | apply Kd.R_drew)); exact HO292.out))) (below_size (by repeat (first | (with_reducible first | exact HB.out | apply below_alloc | apply pw_below_drewN | apply below_drew1 | refine below_set ?_ GE285.out | refine below_set ?_ GE286.out | refine below_set ?_ GE287.out | refine below_set ?_ GE288.out) | exact HB.out))))
  have n2_ := Aside0.mk (blk_below (g := g0) (o := .cells #[.bool a0_0, .slice A0_1 l0_1.length c0_1] 25 (0, 0)) (by (with_reducible repeat (first | refine blk_drewN ?_ _ | refine blk_drew ?_ | refine blk_alloc ?_ _)); exact BK285.out) hb)
  have n3_ := Aside0.mk (blk_below (g := g1) (o := .cells #[.bool a1_0, .slice A1_1 l1_1.length c1_1] 25 (0, 0)) (by (with_reducible repeat (first | refine blk_drewN ?_ _ | refine blk_drew ?_ | refine blk_alloc ?_ _)); exact BK286.out) hb)
  have n4_ := Aside0.mk (blk_below (g := g2) (o := .cells #[.bool a2_0, .slice A2_1 l2_1.length c2_1] 25 (0, 0)) (by (with_reducible repeat (first | refine blk_drewN ?_ _ | refine blk_drew ?_ | refine blk_alloc ?_ _)); exact BK287.out) hb)
  have n5_ := Aside0.mk (blk_below (g := gb288) (o := .cells #[.bool false, .slice none 0 0] 25 (0, 0)) (by (with_reducible repeat (first | refine blk_drewN ?_ _ | refine blk_drew ?_ | refine blk_alloc ?_ _)); exact BK288.out) hb)
  have n6_ := Aside0.mk (below_step (by repeat (first | (with_reducible first | exact HB.out | apply below_alloc | apply pw_below_drewN | apply below_drew1 | refine below_set ?_ GE285.out | refine below_set ?_ GE286.out | refine below_set ?_ GE287.out | refine below_set ?_ GE288.out) | exact HB.out)) hb)
  clear HO292
  clear BK285
  clear BK286
  clear BK287
  clear BK288
  clear HB
  have HO292 := n0_
  have HO296 := n1_
  have BK285 := n2_
  have BK286 := n3_
  have BK287 := n4_
  have BK288 := n5_
  have HB := n6_
  clear n0_ n1_ n2_ n3_ n4_ n5_ n6_
  (try clear hb)
  (try clear ho0)
  obtain ⟨Ao15, co15, eo15⟩ := Kd.R_slice HO296.out
  (first | subst eo15 | (injection eo15 with f1_ f2_ f3_; have f4_ := f1_.symm; have f5_ := f3_.symm; clear f1_ f2_ f3_; subst f4_; subst f5_))
  refine hK.out _ _ ⟨(blk_cell BK285.out 0).trans rfl, (blk_cell BK285.out 1).trans rfl, (blk_cell BK286.out 0).trans rfl, (blk_cell BK286.out 1).trans rfl, (blk_cell BK287.out 0).trans rfl, (blk_cell BK287.out 1).trans rfl⟩ (fun hHeld => ?_)
  clear hK K
  refine norm_ (a' := ?_) ?_ ?_
  rotate_left
  · show Act.put _ (some 8) _ = _
    simp only [Act.put, List.setIfInBounds_toArray, List.set_cons_zero, List.set_cons_succ, i64_w, i32_w]
    rfl
  refine one_ (i := 5) (N := none) #[true, true, true, true, true, true] rfl rfl (by kernel_rfl) (by decide) (fun K hK => ?_)
  have hs14 : w13.cell? ⟨gb288, 0, none⟩ = some (.bool false) := (blk_cell BK288.out 0).trans rfl
  have hfs14 := blk_frozen BK288.out 0
  have hns14_0 := NB285_288.out
  have hns14_1 := NB286_288.out
  have hns14_2 := NB287_288.out
  have hms14_0 := NB288_285.out
  have hms14_1 := NB288_286.out
  have hms14_2 := NB288_287.out
  have hs16 : w13.cell? ⟨gb288, 1, none⟩ = some (.slice none 0 0) := (blk_cell BK288.out 1).trans rfl
  have hfs16 := blk_frozen BK288.out 1
  have hns16_0 := NB285_288.out
  have hns16_1 := NB286_288.out
  have hns16_2 := NB287_288.out
  have hms16_0 := NB288_285.out
  have hms16_1 := NB288_286.out
  have hms16_2 := NB288_287.out
  refine skip_ (w1 := ?_) (by rfl) rfl ?_ ?_
  rotate_left
  · go_simp
    rfl
  refine hK.out _ _ ⟨((cell_far (p := ⟨gb288, _, none⟩) NB285_288.out _).trans (((cell_far (p := ⟨gb288, _, none⟩) NB285_288.out _).trans (hHeld.1)))), ((cell_far (p := ⟨gb288, _, none⟩) NB285_288.out _).trans (((cell_far (p := ⟨gb288, _, none⟩) NB285_288.out _).trans (hHeld.2.1)))), ((cell_far (p := ⟨gb288, _, none⟩) NB286_288.out _).trans (((cell_far (p := ⟨gb288, _, none⟩) NB286_288.out _).trans (hHeld.2.2.1)))), ((cell_far (p := ⟨gb288, _, none⟩) NB286_288.out _).trans (((cell_far (p := ⟨gb288, _, none⟩) NB286_288.out _).trans (hHeld.2.2.2.1)))), ((cell_far (p := ⟨gb288, _, none⟩) NB287_288.out _).trans (((cell_far (p := ⟨gb288, _, none⟩) NB287_288.out _).trans (hHeld.2.2.2.2.1)))), ((cell_far (p := ⟨gb288, _, none⟩) NB287_288.out _).trans (((cell_far (p := ⟨gb288, _, none⟩) NB287_288.out _).trans (hHeld.2.2.2.2.2))))⟩ (fun hHeld => ?_)
  clear hK K
  refine done_ (by kernel_rfl) ?_
  try go_wp2
  refine bodyPost_ret (results_cell_row rfl _ _ gb288 25 #[.bool t293, .slice Ao15 t294.length co15] (0, 0) _ rfl (by (with_reducible repeat (first | refine blk_drewN ?_ _ | refine blk_drew ?_ | refine blk_alloc ?_ _)); refine blk_put (cs := #[.bool t293, .slice none 0 0]) ?_ 1 _ rfl; (with_reducible repeat (first | refine blk_drewN ?_ _ | refine blk_drew ?_ | refine blk_alloc ?_ _)); refine blk_put (cs := #[.bool false, .slice none 0 0]) ?_ 0 _ rfl; (with_reducible repeat (first | refine blk_drewN ?_ _ | refine blk_drew ?_ | refine blk_alloc ?_ _)); exact BK288.out) Try.underlying25 rfl (by kernel_rfl)) rfl ?_
  exact ⟨_, by first | rfl | (simp [errW_none, errW_some] <;> rfl) | (simp [*, errW_none, errW_some] <;> rfl), by (with_reducible repeat (first | apply Kd.R_alloc | apply Kd.R_drewN | apply Kd.R_drew)); exact Kd.R_mono (Kd.R_far (p := ⟨gb288, 1, none⟩) (Kd.R_far (p := ⟨gb288, 0, none⟩) (Kd.R_types HO296.out BK288.out (by decide)) (fun _ hk => hk.2) (.bool t293)) (fun _ hk => hk.2) (.slice Ao15 t294.length co15)) (fun _ hk => trivial), by repeat (first | (with_reducible first | exact HB.out | apply below_alloc | apply pw_below_drewN | apply below_drew1 | refine below_set ?_ GE285.out | refine below_set ?_ GE286.out | refine below_set ?_ GE287.out | refine below_set ?_ GE288.out) | exact HB.out)⟩

theorem whole_Floor_cl1.ev {m m' m2 : Bool} {l l' l2 : List Int} {a b x : Int} {K J : Nat} (ha : Zn.Is m l a (K + J)) (hb : Zn.Is m' l' b K) (hx : Zn.Is m2 l2 x J) (hK : K + J < 900000) : Ev (fun k => whole_Floor_cl1.f k m l m' l' m2 l2) (Zn.zd (a - b * x)) := by
  unfold whole_Floor_cl1.f
  exact Ev.bind (whole_Mul.ev hb hx (by omega)) (Ev.bind (whole_Sub.ev ha (Zn.Is.zd (Zn.abs_mul hb.lt hx.lt)) hK) (Ev.now _))

end Go.Proofs.Ytjpkljkkcbaohaa.PR

end
