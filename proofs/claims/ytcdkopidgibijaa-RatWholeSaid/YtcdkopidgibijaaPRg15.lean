/- Several functions' printed texts in one file. -/
import Derived.Test.YtcdkopidgibijaaRow
import Derived.Test.YtcdkopidgibijaaShort
import Derived.Deep.RegionWith
import Derived.Stop.RegionWithIn
import Derived.Test.YtcdkopidgibijaaMem
import Derived.Test.YtcdkopidgibijaaNum
import Derived.Test.YtcdkopidgibijaaBack
import Derived.Test.YtcdkopidgibijaaPRg0
import Derived.Test.YtcdkopidgibijaaDec
namespace Go.Proofs.Ytcdkopidgibijaa.PR
open Go.RowKit Go.Proofs.YtcdkopidgibijaaW.PrintWords Go.Proofs.YtcdkopidgibijaaW.PrintLast Go.Proofs.YtcdkopidgibijaaW.PrintMore
attribute [local go_sem] max2_int min2_int max_two min_two max_three min_three max_four min_four   -- for this text's walks alone
set_option linter.unusedVariables false
set_option linter.unusedSimpArgs false
section
/-! ### nat_DivMod: function 70 -/
def nat_DivMod.f (_k : Nat) (l0 : List Int) (l1 : List Int) : Option (List Int × List Int × Int) := if Num.okd l0 = true then (if Num.okd l1 = true then (if Num.nv l1 = 0 then some ([], [], 5) else some (Num.nd (Num.nv l0 / Num.nv l1), Num.nd (Num.nv l0 % Num.nv l1), 0)) else none) else none
def nat_DivMod.st (z : List Int) (B : Nat) (pre : List Nat) : Nat × List Int := pre.foldl (fun s j => ((s.1 * 4294967296 + (Back.wd z j).toNat) % B, s.2.set (Back.ix z.length j) (((s.1 * 4294967296 + (Back.wd z j).toNat) / B : Nat) : Int))) (0, List.replicate z.length 0)
theorem nat_DivMod.st_snoc (z : List Int) (B : Nat) (pre : List Nat) (x : Nat) : nat_DivMod.st z B (pre ++ [x]) = (((nat_DivMod.st z B pre).1 * 4294967296 + (Back.wd z x).toNat) % B, (nat_DivMod.st z B pre).2.set (Back.ix z.length x) ((((nat_DivMod.st z B pre).1 * 4294967296 + (Back.wd z x).toNat) / B : Nat) : Int)) := by simp [nat_DivMod.st]
theorem nat_DivMod.st_lt (z : List Int) {B : Nat} (h : B ≠ 0) (pre : List Nat) : (nat_DivMod.st z B pre).1 < B := by
 rcases List.eq_nil_or_concat pre with rfl | ⟨ini, x, rfl⟩
 ·simp only [nat_DivMod.st, List.foldl_nil]; omega
 ·rw [List.concat_eq_append, nat_DivMod.st_snoc]; exact Nat.mod_lt _ (by omega)
theorem nat_DivMod.u32_nat (n : Nat) (h : n < 4294967296) : IntKind.u32.wrap (n : Int) = (n : Int) := by
 have : ∀ x : Int, IntKind.u32.wrap x = x % 4294967296 := fun x => by simp [IntKind.wrap, IntKind.bits, IntKind.signed]
 rw [this, mod32_nat, Nat.mod_eq_of_lt h]
theorem nat_DivMod.quo32 (m B : Nat) (hd : m / B < 4294967296) : (Value.int .u32 (IntKind.u32.wrap (IntKind.u64.wrap ((m : Int) / (B : Int))))) = Value.int .u32 ((m / B : Nat) : Int) := by
 have hx : m / B < 18446744073709551616 := by omega
 have ht : (m : Int) / (B : Int) = ((m / B : Nat) : Int) := rfl
 generalize m / B = x at hd hx ht ⊢
 rw [ht, u64_nat x hx, nat_DivMod.u32_nat x hd]
/-- Long division, the highest word first: plain law. -/
theorem nat_DivMod.st_range (z : List Int) (hz : Num.Ws z) {B : Nat} (hB : B ≠ 0) : ∀ k, k ≤ z.length → ∃ qs, qs.length = k ∧ Num.Ws qs ∧ Num.nv qs = Num.nv (z.drop (z.length - k)) / B ∧ nat_DivMod.st z B (List.range k) = (Num.nv (z.drop (z.length - k)) % B, List.replicate (z.length - k) 0 ++ qs)
 | 0, _ => ⟨[], rfl, Num.Ws.nil, by simp [Num.nv], by simp [nat_DivMod.st, Num.nv]⟩
 | k + 1, hk => by
  obtain ⟨qs, h1, h2, h3, h4⟩ := nat_DivMod.st_range z hz hB k (by omega)
  obtain ⟨q, hq⟩ : ∃ q, q = z.length - (k + 1) := ⟨_, rfl⟩
  have hq1 : z.length - k = q + 1 := by omega
  have hql : q < z.length := by omega
  have hix : Back.ix z.length k = q := by unfold Back.ix; omega
  have hd : z.drop q = z[q] :: z.drop (q + 1) := List.drop_eq_getElem_cons hql
  have hw : Back.wd z k = z[q] := by unfold Back.wd; rw [hix, List.getElem?_eq_getElem hql]; rfl
  have hw2 := hz _ (List.getElem_mem hql)
  rw [hq1] at h3 h4
  rw [List.range_succ, nat_DivMod.st_snoc, h4, ← hq, hix, hw, hd]
  simp only [Num.nv]
  obtain ⟨u, hu⟩ : ∃ u : Nat, u = z[q].toNat := ⟨_, rfl⟩
  obtain ⟨D, hD⟩ : ∃ D, D = Num.nv (z.drop (q + 1)) := ⟨_, rfl⟩
  have hu32 : u < 4294967296 := by omega
  rw [← hu, ← hD]
  rw [← hD] at h3
  have hsum : u + 4294967296 * D = (D % B * 4294967296 + u) + B * (4294967296 * (D / B)) := by
   have h := congrArg (fun x => 4294967296 * x) (Nat.div_add_mod D B)
   simp only [Nat.mul_add] at h
   have h' := Nat.mul_left_comm B 4294967296 (D / B)
   omega
  have hlt : D % B * 4294967296 + u < B * 4294967296 := by
   have := Nat.mod_lt D (Nat.pos_of_ne_zero hB)
   have := Nat.mul_le_mul_right 4294967296 (show D % B + 1 ≤ B from this)
   omega
  have hdv : (D % B * 4294967296 + u) / B < 4294967296 := Nat.div_lt_of_lt_mul hlt
  obtain ⟨v, hv⟩ : ∃ v, v = (D % B * 4294967296 + u) / B := ⟨_, rfl⟩
  rw [← hv] at hdv
  rw [← hv]
  refine ⟨(v : Int) :: qs, by simp [h1], Num.Ws.cons (by omega) (by omega) h2, ?_, ?_⟩
  ·simp only [Num.nv, Int.toNat_natCast]
   rw [h3, hsum, Nat.add_mul_div_left _ _ (Nat.pos_of_ne_zero hB), ← hv]
  ·rw [hsum, Nat.add_mul_mod_self_left]
   congr 1
   rw [List.replicate_succ', List.append_assoc, List.set_append_right _ _ (by simp)]
   simp
open Go.Shelf Back Go.Proofs.YtcdkopidgibijaaW.PrintLast in
attribute [local go_sem] Oper.semAt_some in
set_option maxHeartbeats 8000000 in
set_option maxRecDepth 100000 in
/-- out[k] = uint32(n / uint64(b[0])). -/
theorem nat_DivMod.reg12 (l Bb Bo Br q m B b1 off1 go zl cz1 ol co : Nat) {y0 y1 y2 y4 y5 y6 y10 y12 y13 y14 y15 y16 y17 y18 y19 y20 y21 y22 y23 y24 y25 y26 y27 y28 y29 y30 y31 y32 y33 y34 y35 y36 y37 y38 y39 y40 y41 y42 y43 y44 y45 y46 y47 y48 y49 y50 y51 y52 y53 y54 y55 y56 y57 y58 y59 y60 y61 y62 y63 y64 y65 y66 y67 y68 : Value} (W : World) (v0 : Value)
  (hcB : W.cell? ⟨Bb, 0, none⟩ = some (.slice (some ⟨b1, off1, none⟩) zl cz1)) (hcO : W.cell? ⟨Bo, 0, none⟩ = some (.slice (some ⟨go, 0, none⟩) ol co)) (hcz : W.cell? ⟨b1, off1, none⟩ = some (.int .u32 (B : Int)))
  (hcq : W.cell? ⟨go, q, none⟩ = some v0) (hfq : W.frozen? ⟨go, q, none⟩ = false) (hB0 : B ≠ 0) (hB32 : B < 4294967296) (hmB : m < 4294967296 * B) (hq : (q : Int) < (ol : Int)) (hz : (0 : Int) < (zl : Int)) :
  (Code.region 12 (opsOf Try.f70 12) true : Code).wpIn (Fence.wide.inRound l) 1 Try.prog (Back.only fun a W12 => ∃ x40 x41 x42 x43 x44 x45 x46 x47 x48 x49 : Value, a = { tmps := (y0 :: y1 :: y2 :: Value.pointer (some ⟨Bb, 0, none⟩) :: y4 :: y5 :: y6 :: Value.pointer (some ⟨Bo, 0, none⟩) :: Value.pointer (some ⟨Br, 0, none⟩) :: Value.int .i64 (q : Int) :: y10 :: Value.int .u64 (m : Int) :: y12 :: y13 :: y14 :: y15 :: y16 :: y17 :: y18 :: y19 :: y20 :: y21 :: y22 :: y23 :: y24 :: y25 :: y26 :: y27 :: y28 :: y29 :: y30 :: y31 :: y32 :: y33 :: y34 :: y35 :: y36 :: y37 :: y38 :: y39 :: x40 :: x41 :: x42 :: x43 :: x44 :: x45 :: x46 :: x47 :: x48 :: x49 :: y50 :: y51 :: y52 :: y53 :: y54 :: y55 :: y56 :: y57 :: y58 :: y59 :: y60 :: y61 :: y62 :: y63 :: y64 :: y65 :: y66 :: y67 :: y68 :: []).toArray, defers := [] } ∧ W12 = W.drew.setCell ⟨go, q, none⟩ (.int .u32 ((m / B : Nat) : Int))) { tmps := (y0 :: y1 :: y2 :: Value.pointer (some ⟨Bb, 0, none⟩) :: y4 :: y5 :: y6 :: Value.pointer (some ⟨Bo, 0, none⟩) :: Value.pointer (some ⟨Br, 0, none⟩) :: Value.int .i64 (q : Int) :: y10 :: Value.int .u64 (m : Int) :: y12 :: y13 :: y14 :: y15 :: y16 :: y17 :: y18 :: y19 :: y20 :: y21 :: y22 :: y23 :: y24 :: y25 :: y26 :: y27 :: y28 :: y29 :: y30 :: y31 :: y32 :: y33 :: y34 :: y35 :: y36 :: y37 :: y38 :: y39 :: y40 :: y41 :: y42 :: y43 :: y44 :: y45 :: y46 :: y47 :: y48 :: y49 :: y50 :: y51 :: y52 :: y53 :: y54 :: y55 :: y56 :: y57 :: y58 :: y59 :: y60 :: y61 :: y62 :: y63 :: y64 :: y65 :: y66 :: y67 :: y68 :: []).toArray, defers := [] } W := by
 have hwB : IntKind.u64.wrap (B : Int) = (B : Int) := u64_nat B (by omega)
 have hB0b : ((B : Int) == 0) = false := by simpa using hB0
 have hBpos : (1 : Int) ≤ (B : Int) := by omega
 have hq0 : 0 ≤ (q : Int) := by omega
 have hqn : q < ol := by omega
 have hzn : 0 < zl := by omega
 have hd : m / B < 4294967296 := Nat.div_lt_of_lt_mul (by rw [Nat.mul_comm]; exact hmB)
 have hval := nat_DivMod.quo32 m B hd
 simp only [opsOf, opsIn, Try.f70, Option.bind_some, Option.bind]
 refine Mem.startR_ (N := 11) (S := (fun w' => w'.cell? ⟨Bo, 0, none⟩ = some (.slice (some ⟨go, 0, none⟩) ol co) ∧ w'.cell? ⟨Bb, 0, none⟩ = some (.slice (some ⟨b1, off1, none⟩) zl cz1) ∧ w'.cell? ⟨b1, off1, none⟩ = some (.int .u32 (B : Int)))) (ds := [10]) #[false, false, false, false, false, false, false, false, false, false, false] (by kernel_rfl) (by kernel_rfl) rfl rfl ⟨hcO, hcB, hcz⟩ (fun hHeld => ?_)
 replace hcq : W.drew.cell? ⟨go, q, none⟩ = some v0 := hcq
 replace hfq : W.drew.frozen? ⟨go, q, none⟩ = false := hfq
 generalize W.drew = W1 at hHeld hcq hfq ⊢
 refine Short.takeS_ (i := 0) (N := some 40) #[true, false, false, false, false, false, false, false, false, false, false] (by kernel_rfl) hHeld ?_
 refine Short.pureS_ (i := 1) (N := some 41) #[true, true, false, false, false, false, false, false, false, false, false] (by kernel_rfl) ?_
 refine Short.pureS_ (i := 2) (N := some 42) #[true, true, true, false, false, false, false, false, false, false, false] (by kernel_rfl) ?_
 refine Short.takeS_ (i := 3) (N := some 43) #[true, true, true, true, false, false, false, false, false, false, false] (by kernel_rfl) hHeld ?_
 refine Short.pureS_ (i := 4) (N := some 44) #[true, true, true, true, true, false, false, false, false, false, false] (by kernel_rfl) ?_
 refine Short.takeS_ (i := 5) (N := some 45) #[true, true, true, true, true, true, false, false, false, false, false] (by kernel_rfl) hHeld ?_
 refine Short.pureS_ (i := 6) (N := some 46) #[true, true, true, true, true, true, true, false, false, false, false] (by kernel_rfl) ?_
 refine Short.pureS_ (i := 7) (N := some 47) #[true, true, true, true, true, true, true, true, false, false, false] (by kernel_rfl) ?_
 refine Short.pureS_ (i := 8) (N := some 48) #[true, true, true, true, true, true, true, true, true, false, false] (by kernel_rfl) ?_
 refine Short.pureS_ (i := 9) (N := some 49) #[true, true, true, true, true, true, true, true, true, true, false] (by kernel_rfl) ?_
 refine last_ (i := 10) (N := none) #[true, true, true, true, true, true, true, true, true, true, true] rfl rfl (by kernel_rfl) (by decide) (fun K hK => ?_)
 refine skip_ (w1 := ?_) (by rfl) rfl ?_ ?_
 rotate_left
 ·go_simp
  rfl
 refine hK.out _ _ ?_
 clear hK K
 refine done_ (by kernel_rfl) ?_
 exact ⟨_, _, _, _, _, _, _, _, _, _, rfl, by first | rw [hval] | rfl⟩
open Go.Shelf Back Go.Proofs.YtcdkopidgibijaaW.PrintLast in
attribute [local go_sem] Oper.semAt_some in
set_option maxHeartbeats 8000000 in
set_option maxRecDepth 100000 in
/-- out[k], rest = digit(rest, b). -/
theorem nat_DivMod.reg14 (l Bb Bo Br q m B N5 go cz1 ol co c2 kd : Nat) (Az1 A2 : Option Addr) (z1 : List Int) {y0 y1 y2 y4 y5 y6 y10 y11 y12 y13 y14 y15 y16 y17 y18 y19 y20 y21 y22 y23 y24 y25 y26 y27 y28 y29 y30 y31 y32 y33 y34 y35 y36 y37 y38 y39 y40 y41 y42 y43 y44 y45 y46 y47 y48 y49 y50 y51 y52 y53 y54 y55 y56 y57 y58 y59 y60 y61 y62 y63 y64 y65 y66 y67 y68 : Value} (W : World) (v0 : Value)
  (hcB : W.cell? ⟨Bb, 0, none⟩ = some (.slice Az1 z1.length cz1)) (hcO : W.cell? ⟨Bo, 0, none⟩ = some (.slice (some ⟨go, 0, none⟩) ol co)) (hcR : W.cell? ⟨Br, 0, none⟩ = some (.slice A2 (Num.nd m).length c2)) (hfR : W.frozen? ⟨Br, 0, none⟩ = false)
  (hR1 : Kd.C (Kd.int .u32) W Az1 z1.length z1) (hC1 : z1.length ≤ cz1) (hV : Kd.V (Kd.int .u32) 89 W W.heap.size (fun k => N5 ≤ k) (.slice A2 (Num.nd m).length c2) (Num.nd m))
  (hcq : W.cell? ⟨go, q, none⟩ = some v0) (hfq : W.frozen? ⟨go, q, none⟩ = false) (hq : (q : Int) < (ol : Int)) (h5 : N5 ≤ W.heap.size) (hlO : Bo < W.heap.size) (hlB : Bb < W.heap.size) (hlr : Br < W.heap.size) (hlo : go < W.heap.size) (hne : Br ≠ go)
  (hdig : nat_digit.f kd (Num.nd m) z1 = some (((m / B : Nat) : Int), Num.nd (m % B))) :
  (Code.region 14 (opsOf Try.f70 14) true : Code).wpIn (Fence.wide.inRound l) 1 Try.prog (Back.only fun a W12 => ∃ x57 x58 x59 x60 x61 x62 x63 x64 x65 : Value, ∃ v1 w10, a = { tmps := (y0 :: y1 :: y2 :: Value.pointer (some ⟨Bb, 0, none⟩) :: y4 :: y5 :: y6 :: Value.pointer (some ⟨Bo, 0, none⟩) :: Value.pointer (some ⟨Br, 0, none⟩) :: Value.int .i64 (q : Int) :: y10 :: y11 :: y12 :: y13 :: y14 :: y15 :: y16 :: y17 :: y18 :: y19 :: y20 :: y21 :: y22 :: y23 :: y24 :: y25 :: y26 :: y27 :: y28 :: y29 :: y30 :: y31 :: y32 :: y33 :: y34 :: y35 :: y36 :: y37 :: y38 :: y39 :: y40 :: y41 :: y42 :: y43 :: y44 :: y45 :: y46 :: y47 :: y48 :: y49 :: y50 :: y51 :: y52 :: y53 :: y54 :: y55 :: y56 :: x57 :: x58 :: x59 :: x60 :: x61 :: x62 :: x63 :: x64 :: x65 :: y66 :: y67 :: y68 :: []).toArray, defers := [] } ∧ W12 = (w10.setCell ⟨go, q, none⟩ (.int .u32 ((m / B : Nat) : Int))).setCell ⟨Br, 0, none⟩ v1 ∧ Below W.heap.size W w10 ∧ Kd.V (Kd.int .u32) 89 w10 0 (fun k => N5 ≤ k) v1 (Num.nd (m % B))) { tmps := (y0 :: y1 :: y2 :: Value.pointer (some ⟨Bb, 0, none⟩) :: y4 :: y5 :: y6 :: Value.pointer (some ⟨Bo, 0, none⟩) :: Value.pointer (some ⟨Br, 0, none⟩) :: Value.int .i64 (q : Int) :: y10 :: y11 :: y12 :: y13 :: y14 :: y15 :: y16 :: y17 :: y18 :: y19 :: y20 :: y21 :: y22 :: y23 :: y24 :: y25 :: y26 :: y27 :: y28 :: y29 :: y30 :: y31 :: y32 :: y33 :: y34 :: y35 :: y36 :: y37 :: y38 :: y39 :: y40 :: y41 :: y42 :: y43 :: y44 :: y45 :: y46 :: y47 :: y48 :: y49 :: y50 :: y51 :: y52 :: y53 :: y54 :: y55 :: y56 :: y57 :: y58 :: y59 :: y60 :: y61 :: y62 :: y63 :: y64 :: y65 :: y66 :: y67 :: y68 :: []).toArray, defers := [] } W := by
 have hq0 : 0 ≤ (q : Int) := by omega
 have hqn : q < ol := by omega
 simp only [opsOf, opsIn, Try.f70, Option.bind_some, Option.bind]
 refine Mem.startR_ (N := 11) (S := (fun w' => w'.cell? ⟨Bo, 0, none⟩ = some (.slice (some ⟨go, 0, none⟩) ol co) ∧ w'.cell? ⟨Br, 0, none⟩ = some (.slice A2 (Num.nd m).length c2) ∧ w'.cell? ⟨Bb, 0, none⟩ = some (.slice Az1 z1.length cz1))) (ds := [9, 10]) #[false, false, false, false, false, false, false, false, false, false, false] (by kernel_rfl) (by kernel_rfl) rfl rfl ⟨hcO, hcR, hcB⟩ (fun hHeld => ?_)
 refine Short.takeS_ (i := 0) (N := some 58) #[true, false, false, false, false, false, false, false, false, false, false] (by kernel_rfl) hHeld ?_
 refine Short.pureS_ (i := 1) (N := some 59) #[true, true, false, false, false, false, false, false, false, false, false] (by kernel_rfl) ?_
 refine Short.takeS_ (i := 2) (N := some 60) #[true, true, true, false, false, false, false, false, false, false, false] (by kernel_rfl) hHeld ?_
 refine Short.takeS_ (i := 3) (N := some 61) #[true, true, true, true, false, false, false, false, false, false, false] (by kernel_rfl) hHeld ?_
 refine one_ (i := 4) (N := some 62) #[true, true, true, true, true, false, false, false, false, false, false] rfl rfl (by kernel_rfl) (by decide) (fun K hK => ?_)
 refine Short.goesD_ Try.func89 #[.slice A2 (Num.nd m).length c2, .slice Az1 z1.length cz1] ?_
 with_reducible refine (nat_digit.calls kd (fun k => N5 ≤ k) _ _ (Num.nd m) _ _ z1 _ _ _ (Kd.V_drew hV) (Kd.C_below hR1 (Below.drew (Below.refl _ W))) hC1 hdig).mono ?_
 rintro e w10 ⟨v1, rfl, ho1, hb1⟩
 obtain ⟨Av1, cv1, hv1⟩ := Kd.V_slice ho1
 subst hv1
 refine ⟨_, rfl, ?_⟩
 have hb0 : Below W.heap.size W w10 := ((Below.refl _ W).drew).trans hb1
 have hq10 : w10.cell? ⟨go, q, none⟩ = some v0 := (hb0.cell (p := ⟨go, q, none⟩) hlo).trans hcq
 have hfq10 : w10.frozen? ⟨go, q, none⟩ = false := (hb0.frozen (p := ⟨go, q, none⟩) hlo).trans hfq
 have hr10 : w10.cell? ⟨Br, 0, none⟩ = some (.slice A2 (Num.nd m).length c2) := (hb0.cell (p := ⟨Br, 0, none⟩) hlr).trans hcR
 have hfr10 : w10.frozen? ⟨Br, 0, none⟩ = false := (hb0.frozen (p := ⟨Br, 0, none⟩) hlr).trans hfR
 refine hK.out _ _ ⟨(hb0.cell (p := ⟨Bo, 0, none⟩) hlO).trans hcO, hr10, (hb0.cell (p := ⟨Bb, 0, none⟩) hlB).trans hcB⟩ (fun hHeld => ?_)
 clear hK K
 have hrs : (w10.setCell ⟨go, q, none⟩ (.int .u32 ((m / B : Nat) : Int))).cell? ⟨Br, 0, none⟩ = some (.slice A2 (Num.nd m).length c2) := by rw [Mem.cell_set w10 hne]; exact hr10
 have hfrs : (w10.setCell ⟨go, q, none⟩ (.int .u32 ((m / B : Nat) : Int))).frozen? ⟨Br, 0, none⟩ = false := by rw [Mem.frozen_set w10 hne]; exact hfr10
 refine Short.normS_ ?_
 refine Short.pureS_ (i := 5) (N := some 57) #[true, true, true, true, true, true, false, false, false, false, false] (by kernel_rfl) ?_
 refine Short.pureS_ (i := 6) (N := some 63) #[true, true, true, true, true, true, true, false, false, false, false] (by kernel_rfl) ?_
 refine Short.pureS_ (i := 7) (N := some 64) #[true, true, true, true, true, true, true, true, false, false, false] (by kernel_rfl) ?_
 refine Short.pureS_ (i := 8) (N := some 65) #[true, true, true, true, true, true, true, true, true, false, false] (by kernel_rfl) ?_
 refine last_ (i := 9) (N := none) #[true, true, true, true, true, true, true, true, true, true, false] rfl rfl (by kernel_rfl) (by decide) (fun K hK => ?_)
 refine skip_ (w1 := ?_) (by rfl) rfl ?_ ?_
 rotate_left
 ·go_simp
  rfl
 refine hK.out _ _ ?_
 clear hK K
 refine last_ (i := 10) (N := none) #[true, true, true, true, true, true, true, true, true, true, true] rfl rfl (by kernel_rfl) (by decide) (fun K hK => ?_)
 refine skip_ (w1 := ?_) (by rfl) rfl ?_ ?_
 rotate_left
 ·go_simp
  rfl
 refine hK.out _ _ ?_
 clear hK K
 refine done_ (by kernel_rfl) ?_
 exact ⟨_, _, _, _, _, _, _, _, _, _, w10, rfl, rfl, hb0, Kd.V_mono ho1 (fun k hk => by rcases hk with h | h; exact h; exact Nat.le_trans h5 h)⟩
open Go.Shelf Back in
attribute [local go_sem] Oper.semAt_some in
set_option maxHeartbeats 1000000 in
set_option maxRecDepth 100000 in
theorem nat_DivMod.calls (k : Nat) (A0 : Option Addr) (c0 : Nat) (l0 : List Int) (A1 : Option Addr) (c1 : Nat) (l1 : List Int) (r1 : List Int) (r2 : List Int) (r3 : Int) (w : World) (hr0 : Kd.C (Kd.int .u32) w A0 l0.length l0) (hc0 : l0.length ≤ c0) (hr1 : Kd.C (Kd.int .u32) w A1 l1.length l1) (hc1 : l1.length ≤ c1) (h : nat_DivMod.f k l0 l1 = some (r1, r2, r3)) :
  Calls Try.prog 70 #[.slice A0 l0.length c0, .slice A1 l1.length c1] w fun e w' => ∃ v0_ v1_ : Value, e = .returned (.tuple #[v0_, v1_, .int .i64 r3]) ∧ Kd.R (Kd.int .u32) 89 w' w.heap.size (fun k_ => (w.heap.size ≤ k_)) v0_ r1 ∧ Kd.V (Kd.int .u32) 89 w' w.heap.size (fun k_ => (w.heap.size ≤ k_) ∧ some k_ ≠ (v0_ : Value).ownBlock) v1_ r2 ∧ Below w.heap.size w w' := by
 have hok0 : Num.okd l0 = true := by
  unfold nat_DivMod.f at h
  split at h
  ·assumption
  ·cases h
 have hok1 : Num.okd l1 = true := by
  unfold nat_DivMod.f at h
  rw [if_pos hok0] at h
  split at h
  ·assumption
  ·cases h
 obtain ⟨hL0, hW0⟩ := (Num.okd_iff l0).1 hok0
 obtain ⟨hL1, hW1⟩ := (Num.okd_iff l1).1 hok1
 unfold nat_DivMod.f at h
 rw [if_pos hok0, if_pos hok1] at h
 have ht0 := nat_trim.sem (Num.okd_okw hok0) (l0.length + 1) (by omega)
 have ht1 := nat_trim.sem (Num.okd_okw hok1) (l1.length + 1) (by omega)
 obtain ⟨z0, hz0⟩ : ∃ z, z = Num.nd (Num.nv l0) := ⟨_, rfl⟩
 obtain ⟨z1, hz1⟩ : ∃ z, z = Num.nd (Num.nv l1) := ⟨_, rfl⟩
 have hn0 : z0.length < 549755813888 := by
  have := Num.nd_length_le (Num.nv_lt hW0)
  rw [hz0]; omega
 have hn1 : z1.length < 549755813888 := by
  have := Num.nd_length_le (Num.nv_lt hW1)
  rw [hz1]; omega
 rw [← hz0] at ht0
 rw [← hz1] at ht1
 have HT0 := Aside0.mk ht0
 have HT1 := Aside0.mk ht1
 have HR0 := Aside0.mk hr0
 have HC0 := Aside0.mk hc0
 have HR1 := Aside0.mk hr1
 have HC1 := Aside0.mk hc1
 have HZ0 := Aside0.mk hz0
 have HZ1 := Aside0.mk hz1
 have HH := Aside0.mk h
 clear ht0 ht1 hr0 hc0 hr1 hc1 hz0 hz1 h hok0 hok1 hL0 hL1 hW0 hW1
 have hB0 : Below w.heap.size w (w.alloc (.cells #[.slice A1 l1.length c1] 23)) := (Below.refl _ w).alloc (Nat.le_refl _) _
 have bB := Boxed.new w 23 (.slice A1 l1.length c1)
 refine (callsIn_wide (n := 3)).1 ?_
 refine callsIn_of_wp_marks Try.func70 rfl trivial ?_ rfl
 simp only [Try.ntmps70, List.size_toArray, List.length_cons, List.length_nil, Nat.reduceAdd, Nat.reduceSub, Array.replicate_succ, Array.replicate_zero, List.push_toArray, List.append_toArray, List.nil_append, List.cons_append]
 refine wpIn_wide.2 ?_
 go_wp2
 have hcb0 := bB.cell
 have hsz0 : (w.alloc (.cells #[.slice A1 l1.length c1] 23)).heap.size = w.heap.size + 1 := by simp
 generalize (w.alloc (.cells #[.slice A1 l1.length c1] 23)) = w0 at hB0 bB hcb0 hsz0 ⊢
 refine wp_piece (fun a W3 => ∃ Az0 cz0 Az1 cz1, a = { tmps := (Value.slice Az0 z0.length cz0 :: Value.slice A1 l1.length c1 :: undef :: Value.pointer (some ⟨w.heap.size, 0, none⟩) :: Value.slice none 0 0 :: Value.slice none 0 0 :: Value.int .i64 0 :: undef :: undef :: undef :: undef :: undef :: undef :: Value.slice A0 l0.length c0 :: Value.slice Az0 z0.length cz0 :: Value.slice A1 l1.length c1 :: Value.slice Az1 z1.length cz1 :: undef :: undef :: undef :: undef :: undef :: undef :: undef :: undef :: undef :: undef :: undef :: undef :: undef :: undef :: undef :: undef :: undef :: undef :: undef :: undef :: undef :: undef :: undef :: undef :: undef :: undef :: undef :: undef :: undef :: undef :: undef :: undef :: undef :: undef :: undef :: undef :: undef :: undef :: undef :: undef :: undef :: undef :: undef :: undef :: undef :: undef :: undef :: undef :: undef :: undef :: undef :: undef :: []).toArray, defers := [] } ∧ Kd.R (Kd.int .u32) 89 W3 w.heap.size (fun _ => True) (.slice Az0 z0.length cz0) z0 ∧ Kd.R (Kd.int .u32) 89 W3 w.heap.size (fun _ => True) (.slice Az1 z1.length cz1) z1 ∧ Below w.heap.size w W3 ∧ Boxed W3 w.heap.size 23 (.slice Az1 z1.length cz1)) ?_ ?_
 have hlt0 : w.heap.size < w0.heap.size := bB.lt
 ·go_region_with (first | (go_at_call 71; (with_reducible refine (nat_trim.calls _ _ _ l0 _ _ (Kd.C_below HR0.out hB0.drew) HC0.out HT0.out).mono ?_); rintro e w1 ⟨v0, rfl, ho0, hb0⟩; obtain ⟨Az0, cz0, hv0⟩ := Kd.R_slice ho0; subst hv0; have hB1 : Below w.heap.size w w1 := hB0.drew.trans (hb0.mono hB0.size); have bB1 : Boxed w1 w.heap.size 23 (.slice A1 l1.length c1) := (hb0.block _ hlt0).trans bB; have hcb1 := bB1.cell) | (go_at_call 71; (with_reducible refine (nat_trim.calls _ _ _ l1 _ _ (Kd.C_below HR1.out hB1) HC1.out HT1.out).mono ?_); rintro e w2 ⟨v1, rfl, ho1, hb1⟩; obtain ⟨Az1, cz1, hv1⟩ := Kd.R_slice ho1; subst hv1; have bB2 : Boxed w2 w.heap.size 23 (.slice A1 l1.length c1) := (hb1.block _ bB1.lt).trans bB1; have hcb2 := bB2.cell; have hfb2 := bB2.frozen))
  all_goals
   have hs0 : w0.drew.heap.size = w0.heap.size := rfl
   have hs1 := hb0.size
   have hs2 := hb1.size
   have R03 := Kd.R_far (p := ⟨w.heap.size, 0, none⟩) (Kd.R_mono (Kd.R_bound (Kd.R_below ho0 hb1)) (ok' := fun k => w0.heap.size ≤ k) (fun k hk => hk.2.1)) (fun k hk => by simp only; omega) (.slice Az1 z1.length cz1)
   have R13 := Kd.R_far (p := ⟨w.heap.size, 0, none⟩) (Kd.R_mono (Kd.R_bound ho1) (ok' := fun k => w1.heap.size ≤ k) (fun k hk => hk.2.1)) (fun k hk => by simp only; omega) (.slice Az1 z1.length cz1)
   have hB3 : Below w.heap.size w (w2.setCell ⟨w.heap.size, 0, none⟩ (.slice Az1 z1.length cz1)) := (hB1.trans (hb1.mono (by omega))).setCell (p := ⟨w.heap.size, 0, none⟩) (Nat.le_refl _) _
   exact ⟨_, _, _, _, rfl, Kd.R_lower (Kd.R_mono R03 (fun _ _ => trivial)) (by omega), Kd.R_lower (Kd.R_mono R13 (fun _ _ => trivial)) (by omega), hB3, bB2.set _⟩
 rintro a W3 ⟨Az0, cz0, Az1, cz1, rfl, R03, R13, hB3, bB3⟩
 clear hB0 bB hcb0 hsz0
 clear w0
 refine only_then ?_
 have hc3 := bB3.cell
 by_cases hz : Num.nv l1 = 0
 ·have hl1 : z1.length = 0 := by rw [HZ1.out, hz, Num.nd_zero]; rfl
  have h := HH.out
  rw [if_pos hz] at h
  simp only [Option.some.injEq, Prod.mk.injEq] at h
  obtain ⟨rfl, rfl, rfl⟩ := h
  clear hz HH
  go_wp2
  exact ⟨_, results_tmp3 rfl _ _ _, _, _, rfl, Kd.R_nil _ _ _ _ _, Kd.V_nil _ _ _ _ _, hB3⟩
 ·have hl1 : 0 < z1.length := by
   rcases Nat.eq_zero_or_pos z1.length with h0 | h0
   ·exact absurd (Num.nd_eq_nil.1 (by rw [← HZ1.out]; exact List.eq_nil_of_length_eq_zero h0)) hz
   ·exact h0
  have h := HH.out
  rw [if_neg hz] at h
  simp only [Option.some.injEq, Prod.mk.injEq] at h
  obtain ⟨rfl, rfl, rfl⟩ := h
  have HN := Aside0.mk hz
  have HW0 : Aside0 (Num.Ws z0) := ⟨by rw [HZ0.out]; exact Num.Ws_nd _⟩
  have HW1 : Aside0 (Num.Ws z1) := ⟨by rw [HZ1.out]; exact Num.Ws_nd _⟩
  clear hz HH
  have hl1' : ¬ (z1.length : Int) = 0 := by omega
  go_wp2_with (first | ((with_reducible refine gate_dst (N := 22) rfl ?_); refine Kd.R_make (Kd.int .u32) W3.heap.size 89 rfl (N := 22) rfl 23 _ _ rfl (z0.length : Int) rfl rfl Try.underlying23 (.int .u32 0) 4 info89 rfl (by decide) (by omega) 0 (ok := fun _ => True) (okp := fun _ => True) rfl (fun _ hk => hk) trivial (by omega) (by omega) (Below.refl _ _) (Nat.le_refl _) ?_; intro vo w4 ho4 hb4 hg4 hnew4; obtain ⟨Ao, co, hvo⟩ := Kd.R_slice ho4; subst hvo; simp only [Int.toNat_natCast, List.length_replicate] at ho4) | (go_at_call 87; refine (callsIn_wide.1 (back_in Fence.wide 0 trivial rfl _ _ _ _)).mono ?_; rintro e w5 ⟨rfl, rfl⟩))
  have hs4 := hb4.size
  have bO := ((Boxed.new w4 23 (.slice Ao z0.length co)).alloc (.cells #[.slice none 0 0] 23)).alloc (.cells #[.slice Az0 z0.length cz0] 23)
  have bR := (Boxed.new (w4.alloc (.cells #[.slice Ao z0.length co] 23)) 23 (.slice none 0 0)).alloc (.cells #[.slice Az0 z0.length cz0] 23)
  have bS := Boxed.new ((w4.alloc (.cells #[.slice Ao z0.length co] 23)).alloc (.cells #[.slice none 0 0] 23)) 23 (.slice Az0 z0.length cz0)
  rw [World.size_alloc] at bR
  rw [World.size_alloc, World.size_alloc] at bS
  have RO := ((Kd.R_alloc (Kd.R_alloc (Kd.R_alloc (Kd.R_tight rfl ho4) (.cells #[.slice Ao z0.length co] 23)) (.cells #[.slice none 0 0] 23)) (.cells #[.slice Az0 z0.length cz0] 23)))
  have hB5 : Below W3.heap.size W3 (((w4.alloc (.cells #[.slice Ao z0.length co] 23)).alloc (.cells #[.slice none 0 0] 23)).alloc (.cells #[.slice Az0 z0.length cz0] 23)) := ((hb4.alloc hs4 _).alloc (by simp; omega) _).alloc (by simp; omega) _
  have hs5 : (((w4.alloc (.cells #[.slice Ao z0.length co] 23)).alloc (.cells #[.slice none 0 0] 23)).alloc (.cells #[.slice Az0 z0.length cz0] 23)).heap.size = w4.heap.size + 3 := by simp
  have hgo : ∀ g, (Value.slice Ao z0.length co).ownBlock = some g → W3.heap.size ≤ g ∧ g < w4.heap.size := fun g hg => ⟨Kd.R_base ho4 g hg, Kd.R_lt ho4 g hg⟩
  generalize (((w4.alloc (.cells #[.slice Ao z0.length co] 23)).alloc (.cells #[.slice none 0 0] 23)).alloc (.cells #[.slice Az0 z0.length cz0] 23)) = W5 at bO bR bS RO hB5 hs5 ⊢
  have row0 := (Row.ofR R03 (Nat.le_refl _)).below hB5
  have row1 := Row.ofR R13 (Nat.le_refl _)
  clear hb4 hg4 ho4 hnew4
  refine (wpIn_wide (n := 3)).1 ?_
  refine wpIn_rangeFunc_ownG (F := Fence.wide) (n := 3) rfl (by omega) (gf := 94) (lb := #[.pointer (some ⟨w4.heap.size + 1 + 1, 0, none⟩)]) rfl trivial (enters_of Try.func94 (by kernel_rfl) rfl)
   (back_stops Fence.wide _ trivial rfl (by omega) (w4.heap.size + 1 + 1) W3.heap.size _ z0 (by omega) _ (by omega) (by omega) bS.cell row0) KB.trans (KB.putObj (by omega) (by omega)) (Below.refl _ _) (fun _ => rfl)
   (fun pre W => Below W3.heap.size W5 W ∧ Boxed W w4.heap.size 23 (.slice Ao z0.length co) ∧ Kd.R (Kd.int .u32) 89 W W3.heap.size (fun k => some k = (Value.slice Ao z0.length co).ownBlock) (.slice Ao z0.length co) (nat_DivMod.st z0 (Num.nv l1) pre).2 ∧ ∃ vr, Boxed W (w4.heap.size + 1) 23 vr ∧ Kd.V (Kd.int .u32) 89 W 0 (fun k => W5.heap.size ≤ k) vr (Num.nd (nat_DivMod.st z0 (Num.nv l1) pre).1))
   (fun _ _ _ => False)
   (OwnFrom.and (ownFrom_below (by omega) (by omega)) (OwnFrom.and (Own.from (boxed_own _ _ _) _) (OwnFrom.and (Own.from (Mem.R_own _ _ _ _ _) _) (Own.from (Mem.V_own _ _ _ _ _ _) _))))
   (fun _ _ _ _ _ hs _ _ => hs)
   ⟨Below.refl _ _, bO, by simpa [nat_DivMod.st] using RO, _, bR, by simpa [nat_DivMod.st, Num.nd_zero] using Kd.V_nil _ _ _ _ _⟩
   (fun x => { tmps := (Value.slice Az0 z0.length cz0 :: Value.slice A1 l1.length c1 :: undef :: Value.pointer (some ⟨w.heap.size, 0, none⟩) :: Value.slice none 0 0 :: Value.slice none 0 0 :: Value.int .i64 0 :: Value.pointer (some ⟨w4.heap.size, 0, none⟩) :: Value.pointer (some ⟨w4.heap.size + 1, 0, none⟩) :: Value.int .i64 (ix z0.length x : Int) :: Value.int .u32 (wd z0 x) :: undef :: undef :: Value.slice A0 l0.length c0 :: Value.slice Az0 z0.length cz0 :: Value.slice A1 l1.length c1 :: Value.slice Az1 z1.length cz1 :: Value.slice Az1 z1.length cz1 :: Value.int .i64 (z1.length : Int) :: Value.bool false :: Value.slice Az0 z0.length cz0 :: Value.int .i64 (z0.length : Int) :: Value.slice Ao z0.length co :: Value.slice Az0 z0.length cz0 :: Value.func (.func 94) #[] #[.pointer (some ⟨w4.heap.size + 1 + 1, 0, none⟩)] :: Value.int .i64 (ix z0.length x : Int) :: Value.int .u32 (wd z0 x) :: undef :: undef :: undef :: undef :: undef :: undef :: undef :: undef :: undef :: undef :: undef :: undef :: undef :: undef :: undef :: undef :: undef :: undef :: undef :: undef :: undef :: undef :: undef :: undef :: undef :: undef :: undef :: undef :: undef :: undef :: undef :: undef :: undef :: undef :: undef :: undef :: undef :: undef :: undef :: undef :: undef :: undef :: []).toArray, defers := [] }) ?assign ?body ?done ?stop
  case assign =>
   intro l x W K hK
   gi_wp2
   exact hK
  case body =>
   rintro l pre x W ⟨hB5W, bO', RO', vr, bR', VR'⟩ hlt
   have hB := hB5.trans hB5W
   have hs5W := hB5W.size
   have hx : ix z0.length x < z0.length := by unfold ix; omega
   have hw := HW0.out.getD (ix z0.length x)
   obtain ⟨Ar, cr, hvr⟩ := Kd.V_slice VR'
   obtain ⟨R, hR⟩ : ∃ s, s = (nat_DivMod.st z0 (Num.nv l1) pre).1 := ⟨_, rfl⟩
   obtain ⟨O, hO⟩ : ∃ s, s = (nat_DivMod.st z0 (Num.nv l1) pre).2 := ⟨_, rfl⟩
   rw [← hR] at VR' hvr
   rw [← hO] at RO'
   subst hvr
   have hlR := (Kd.V_reads' VR').2.2
   have hcB := (hB.cell (p := ⟨w.heap.size, 0, none⟩) bB3.lt).trans hc3
   have hcO := bO'.cell
   have hcR := bR'.cell
   have hfR := bR'.frozen
   have hsW := hB5.size
   have hsB := hB.size
   obtain ⟨u, hu⟩ : ∃ u : Nat, (u : Int) = wd z0 x := ⟨(wd z0 x).toNat, by simp only [List.getD_eq_getElem?_getD] at hw; unfold wd; omega⟩
   have hu32 : u < 4294967296 := by simp only [List.getD_eq_getElem?_getD] at hw; unfold wd at hu; omega
   obtain ⟨q, hq⟩ : ∃ q, q = ix z0.length x := ⟨_, rfl⟩
   obtain ⟨B, hBe⟩ : ∃ B, B = Num.nv l1 := ⟨_, rfl⟩
   have hB0 : B ≠ 0 := by rw [hBe]; exact HN.out
   have hRB : R < B := by rw [hR, ← hBe]; exact nat_DivMod.st_lt z0 hB0 pre
   have hzB : Num.nv z1 = B := by rw [HZ1.out, Num.nv_nd, hBe]
   have hlr : (Num.nd R).length ≤ z1.length := by
    rw [HZ1.out, ← hBe]
    exact Num.nd_len_mono (by omega)
   have hnvr : Num.nv ([(u : Int)] ++ Num.nd R) = R * 4294967296 + u := by simp only [List.cons_append, List.nil_append, Num.nv, Num.nv_nd, Int.toNat_natCast]; omega
   obtain ⟨m, hm⟩ : ∃ m, m = R * 4294967296 + u := ⟨_, rfl⟩
   have HTr : Aside0 (nat_trim.f ((Num.nd R).length + 2) ([(u : Int)] ++ Num.nd R) = some (Num.nd (R * 4294967296 + u))) := ⟨by
    rw [← hnvr]
    exact nat_trim.sem_w (by rw [List.cons_append, List.nil_append]; exact Num.Ws.cons (by omega) (by omega) (Num.Ws_nd _)) (by simp; omega) _ (by simp)⟩
   obtain ⟨L1, hL1⟩ : ∃ L, L = [(u : Int)] ++ Num.nd R := ⟨_, rfl⟩
   have HTr1 : Aside0 (nat_trim.f ((Num.nd R).length + 2) L1 = some (Num.nd m)) := ⟨by rw [hL1, hm]; exact HTr.out⟩
   have HL1 := Aside0.mk hL1
   have HM := Aside0.mk hm
   have hmB : m < 4294967296 * B := by rw [hm]; have := Nat.mul_le_mul_left 4294967296 (show R + 1 ≤ B from hRB); omega
   clear hL1 HTr hm
   rw [← hq] at hx
   rw [← hq, ← hu]
   have HU := Aside0.mk hu
   have HQ := Aside0.mk hq
   have HR' := Aside0.mk hR
   have HO' := Aside0.mk hO
   have HBE := Aside0.mk hBe
   have HZB := Aside0.mk hzB
   have HB := Aside0.mk hB
   have HRO := Aside0.mk RO'
   have HVR := Aside0.mk VR'
   have HLR := Aside0.mk hlR
   have hlr4 : (1 + (Num.nd R).length) * 4 ≤ 140737488355328 := by omega
   have HGO := Aside0.mk hgo
   clear hu hq hR hO hBe hzB hw hnvr hB RO' VR' hlR hgo row0
   have hgo := HGO
   have bBW : Boxed W w.heap.size 23 (.slice Az1 z1.length cz1) := (HB.out.block _ bB3.lt).trans bB3
   have hcRL := (bR'.alloc (.cells #[.int .u32 (u : Int)] 89)).cell
   have hst : nat_DivMod.st z0 (Num.nv l1) (pre ++ [x]) = (m % B, O.set q ((m / B : Nat) : Int)) := by
    rw [nat_DivMod.st_snoc, ← HR'.out, ← HO'.out, ← HBE.out, ← HQ.out, ← HU.out, Int.toNat_natCast, ← HM.out]
   have hend : ∀ (W' : World) (v : Value), Mem.Turn W3.heap.size (w4.heap.size + 1 + 1) W W' → Boxed W' w4.heap.size 23 (.slice Ao z0.length co) → Kd.R (Kd.int .u32) 89 W' W3.heap.size (fun k => some k = (Value.slice Ao z0.length co).ownBlock) (.slice Ao z0.length co) (O.set q ((m / B : Nat) : Int)) → Boxed W' (w4.heap.size + 1) 23 v → Kd.V (Kd.int .u32) 89 W' 0 (fun k => W5.heap.size ≤ k) v (Num.nd (m % B)) →
     KeepsFrom W5.heap.size W W' ∧ KB W3.heap.size (w4.heap.size + 1 + 1) W W' ∧ Below W3.heap.size W5 W' ∧ Boxed W' w4.heap.size 23 (.slice Ao z0.length co) ∧ Kd.R (Kd.int .u32) 89 W' W3.heap.size (fun k => some k = (Value.slice Ao z0.length co).ownBlock) (.slice Ao z0.length co) (nat_DivMod.st z0 (Num.nv l1) (pre ++ [x])).2 ∧ ∃ vr, Boxed W' (w4.heap.size + 1) 23 vr ∧ Kd.V (Kd.int .u32) 89 W' 0 (fun k => W5.heap.size ≤ k) vr (Num.nd (nat_DivMod.st z0 (Num.nv l1) (pre ++ [x])).1) := by
    intro W' v hT h1 h2 h3 h4
    rw [hst]
    exact ⟨hT.ko.from _, hT.kb, hB5W.trans hT.kb.1, h1, h2, v, h3, h4⟩
   have HEND := Aside0.mk hend
   clear hst hend
   have hbb : w.heap.size < W3.heap.size := bB3.lt
   have hWs : w4.heap.size + 1 < W.heap.size := bR'.lt
   have hsB0 : W3.heap.size ≤ W.heap.size := HB.out.size
   have hBsW : w4.heap.size + 1 + 1 < W.heap.size := by omega
   by_cases hl1e : z1.length = 1
   ·have HL1E := Aside0.mk hl1e
    have ht1 : ((z1.length : Int) == 1) = true := by rw [hl1e]; rfl
    clear hl1e
    have hB32 : B < 4294967296 := by
     have := Num.nv_lt HW1.out
     rw [HZB.out, HL1E.out] at this
     exact this
    have hm64 : m < 18446744073709551616 := by omega
    have hlm : (Num.nd m).length ≤ 2 := Num.nd_length_le (k := 2) hm64
    have hsm : Aside0 (nat_Small.f 0 (Num.nd m) = some ((m : Int), true)) := ⟨by
     unfold nat_Small.f
     rw [if_pos (Num.okw_of (by omega) (Num.Ws_nd m)), Num.nv_nd, if_pos hm64]⟩
    gi_wp2_with (first | (gi_at_builtin; refine Mem.wpListIn_append_rows W.heap.size rfl (.tmp 28) (.tmp 29) 23 89 rfl Try.underlying23 info89 (.slice (some ⟨W.heap.size, 0, none⟩) 1 1) [(u : Int)] (Num.nd R) Ar (Num.nd R).length cr rfl rfl (Mem.R_lit1 W _ _) (Kd.C_alloc HLR.out _) (by simp) hlr4 ?_; intro v1 w1 hv1 hg1; rw [← HL1.out] at hv1; obtain ⟨A1', c1', hv1'⟩ := Kd.R_slice hv1; subst hv1'; have hW1 : Below W.heap.size W w1 := ((Below.refl W.heap.size W).alloc (Nat.le_refl _) _).grown hg1 (by simp) (fun k hk => by simp [Value.ownBlock] at hk; omega)) | (refine ⟨trivial, ?_⟩; gi_at_call 71; (with_reducible refine (CallsIn.inRound l (callsIn_wide.2 (nat_trim.calls _ _ _ L1 _ _ (Kd.R_reads' hv1).2.2 (Kd.R_reads' hv1).2.1 HTr1.out))).mono ?_); rintro e w2 ⟨v2, rfl, ho2, hb2⟩; obtain ⟨A2, c2, hv2⟩ := Kd.R_slice ho2; subst hv2; have hW2 : Below W.heap.size W w2 := hW1.trans (hb2.mono hW1.size); have bR2 : Boxed w2 (w4.heap.size + 1) 23 (.slice Ar (Num.nd R).length cr) := (hW2.block _ bR'.lt).trans bR'; have hcR2 := bR2.cell; have hfR2 := bR2.frozen; have bR9 := bR2.set (.slice A2 (Num.nd m).length c2); have hcR9 := bR9.cell; have bB9 : Boxed (w2.setCell ⟨w4.heap.size + 1, 0, none⟩ (.slice A2 (Num.nd m).length c2)) w.heap.size 23 (.slice Az1 z1.length cz1) := Boxed.other ((hW2.block _ bBW.lt).trans bBW) (by omega) _; have hcB9 := bB9.cell; have ho9 := Kd.R_far (p := ⟨w4.heap.size + 1, 0, none⟩) (Kd.R_mono (Kd.R_bound ho2) (ok' := fun k => w1.heap.size ≤ k) (fun k hk => hk.2.1)) (fun k hk => by have := hW1.size; have := bR'.lt; simp only; omega) (.slice A2 (Num.nd m).length c2)) | (refine ⟨trivial, ?_⟩; gi_at_call 83; (with_reducible refine (CallsIn.inRound l (callsIn_wide.2 (nat_Small.calls _ _ _ (Num.nd m) _ _ _ (Kd.R_reads' ho9).2.2 (Kd.R_reads' ho9).2.1 hsm.out))).mono ?_); rintro e w10 ⟨rfl, hb10⟩))
    have hT2 : Mem.Turn W3.heap.size (w4.heap.size + 1 + 1) W w2 := Mem.Turn.below hW2 hsB0 hBsW
    have hT9 := hT2.trans (Mem.Turn.set w2 0 (b := w4.heap.size + 1) (by omega) (by omega) (.slice A2 (Num.nd m).length c2))
    have hs9 : w2.heap.size ≤ (w2.setCell ⟨w4.heap.size + 1, 0, none⟩ (.slice A2 (Num.nd m).length c2)).heap.size := by simp [World.setCell]
    have hs2 := hW2.size
    have hT10 := hT9.trans (Mem.Turn.below hb10 (by omega) (by omega))
    have bB10 : Boxed w10 w.heap.size 23 (.slice Az1 z1.length cz1) := (hb10.block _ bB9.lt).trans bB9
    have bO9 : Boxed (w2.setCell ⟨w4.heap.size + 1, 0, none⟩ (.slice A2 (Num.nd m).length c2)) w4.heap.size 23 (.slice Ao z0.length co) := Mem.boxed_set ((hW2.block _ bO'.lt).trans bO') 0 (by omega) _
    have bO10 : Boxed w10 w4.heap.size 23 (.slice Ao z0.length co) := (hb10.block _ bO9.lt).trans bO9
    have bR10 : Boxed w10 (w4.heap.size + 1) 23 (.slice A2 (Num.nd m).length c2) := (hb10.block _ bR9.lt).trans bR9
    have RO9 := Kd.R_far (p := ⟨w4.heap.size + 1, 0, none⟩) (Kd.R_below HRO.out hW2) (fun k hk => by have := (hgo.out k hk.symm).2; simp only; omega) (.slice A2 (Num.nd m).length c2)
    have RO10 := Kd.R_below RO9 hb10
    have row10 := (((row1.below HB.out).below (hT9.kb.1)).below (hb10.mono (by omega)))
    have hOl := (Kd.R_reads' RO10).1
    obtain ⟨go, cap, hge, hg1, hg2, _⟩ := Kd.R_form RO10 (by omega)
    rw [← hOl] at hge
    obtain ⟨hAo, hco⟩ : Ao = some ⟨go, 0, none⟩ ∧ co = cap := by
     injection hge with e1 e2 e3
     exact ⟨e1, e3⟩
    have hgo4 := (hgo.out go (by rw [hAo]; rfl)).2
    subst hAo
    subst hco
    obtain ⟨hcq, hfq⟩ := Kd.R_celln 0 RO10 (q : Int) (by omega) (by omega)
    have hput := (Kd.R_putg (Kd.R_drew RO10) (q : Int) ((m / B : Nat) : Int)).1
    simp only [Int.toNat_natCast] at hcq hfq hput
    have hcO10 := bO10.cell
    have hcB10 := bB10.cell
    rcases row10 with ⟨hnil, _⟩ | ⟨b1, off1, cap1, e, hb1, hcs1⟩
    ·exfalso
     have := HL1E.out
     injection hnil with _ e2 _
     omega
    ·obtain ⟨hAz1, hcz1⟩ : Az1 = some ⟨b1, off1, none⟩ ∧ cz1 = cap1 := by
      injection e with e1 e2 e3
      exact ⟨e1, e3⟩
     subst hAz1
     subst hcz1
     have hzv : z1[0]?.getD 0 = (B : Int) := by
      have h1 := HZB.out
      have h2 := HL1E.out
      match z1, h2 with
      | [b], _ =>
       have := HW1.out.head
       simp only [Num.nv] at h1
       simp
       omega
     have hcz := hcs1 0 (by omega)
     rw [hzv, Nat.add_zero] at hcz
     have hBpos : (1 : Int) ≤ (B : Int) := by omega
     have hBne : ¬ ((B : Int) = 0) := by omega
     have hq0 : 0 ≤ (q : Int) := by omega
     have hqz : (q : Int) < (z0.length : Int) := by omega
     have h1z : (0 : Int) < (z1.length : Int) := by omega
     have hHR := Aside0.mk RO10
     clear RO10 RO9 hsm hcs1
     have hwB : IntKind.u64.wrap (B : Int) = (B : Int) := u64_nat B (by omega)
     have hB0b : ((B : Int) == 0) = false := by simpa using hB0
     have hlo10 : W3.heap.size ≤ go := (hgo.out go rfl).1
     refine wpIn_piece _ (nat_DivMod.reg12 l w.heap.size w4.heap.size (w4.heap.size + 1) q m B b1 off1 go z1.length cz1 z0.length co w10 _ hcB10 hcO10 hcz hcq hfq hB0 hB32 hmB hqz h1z) ?_
     rintro a W12 ⟨x40, x41, x42, x43, x44, x45, x46, x47, x48, x49, rfl, hW12⟩
     have hT12 : Mem.Turn W3.heap.size (w4.heap.size + 1 + 1) W W12 := by rw [hW12]; exact (hT10.trans (Mem.Turn.drew _ _ w10)).trans (Mem.Turn.set w10.drew q (b := go) (by omega) (by omega) _)
     have bB12 : Boxed W12 w.heap.size 23 (.slice (some ⟨b1, off1, none⟩) z1.length cz1) := by rw [hW12]; exact Mem.boxed_set (W := w10.drew) bB10 q (by omega) _
     have bO12 : Boxed W12 w4.heap.size 23 (.slice (some ⟨go, 0, none⟩) z0.length co) := by rw [hW12]; exact Mem.boxed_set (W := w10.drew) bO10 q (by omega) _
     have bR12 : Boxed W12 (w4.heap.size + 1) 23 (.slice A2 (Num.nd m).length c2) := by rw [hW12]; exact Mem.boxed_set (W := w10.drew) bR10 q (by omega) _
     have R12 := hput
     rw [← hW12] at R12
     have hcz12 : W12.cell? ⟨b1, off1, none⟩ = some (.int .u32 (B : Int)) := by rw [hW12, Mem.cell_set _ (by omega)]; exact hcz
     have hs12 : W.heap.size ≤ W12.heap.size := hT12.ko.size
     clear hput hW12 hcz hcq hfq hcO10 hcB10 hHR
     have hcB12 := bB12.cell
     have hcR12 := bR12.cell
     have hfR12 := bR12.frozen
     have hmm : m % B < 18446744073709551616 := Nat.lt_trans (Nat.mod_lt _ (by omega)) (by omega)
     obtain ⟨kf, hkf⟩ := nat_Of.ev (m % B) hmm
     have hof : Aside0 (nat_Of.f kf ((m : Int) % (B : Int)) = some (Num.nd (m % B))) := ⟨by rw [← Int.natCast_emod]; exact hkf kf (Nat.le_refl _)⟩
     have hrem : IntKind.u64.wrap ((m : Int) % (B : Int)) = (m : Int) % (B : Int) := by rw [← Int.natCast_emod]; exact u64_nat _ hmm
     clear hkf
     gi_wp2_with (refine ⟨trivial, ?_⟩; gi_at_call 37; (with_reducible refine (CallsIn.inRound l (callsIn_wide.2 (nat_Of.calls _ _ _ _ hof.out))).mono ?_); rintro e w13 ⟨v3, rfl, ho3, hb3⟩; obtain ⟨A3, c3, hv3⟩ := Kd.R_slice ho3; subst hv3; have bR13 : Boxed w13 (w4.heap.size + 1) 23 (.slice A2 (Num.nd m).length c2) := (hb3.block _ bR12.lt).trans bR12; have hcR13 := bR13.cell; have hfR13 := bR13.frozen)
     have hT13 := hT12.trans (Mem.Turn.below hb3 (by omega) (by omega))
     have bO13 : Boxed w13 w4.heap.size 23 (.slice (some ⟨go, 0, none⟩) z0.length co) := (hb3.block _ bO12.lt).trans bO12
     have R13' := Kd.R_below R12 hb3
     refine HEND.out _ (.slice A3 (Num.nd (m % B)).length c3) (hT13.trans (Mem.Turn.set w13 0 (b := w4.heap.size + 1) (by omega) (by omega) _)) (Mem.boxed_set bO13 0 (by omega) _) (Kd.R_far R13' (p := ⟨w4.heap.size + 1, 0, none⟩) (fun k hk => by have := (hgo.out k hk.symm).2; simp only; omega) _) (bR13.set _) ?_
     refine Kd.V_mono (Kd.R_V (Kd.R_far (p := ⟨w4.heap.size + 1, 0, none⟩) (Kd.R_mono (Kd.R_bound ho3) (ok' := fun k => W12.heap.size ≤ k) (fun k hk => hk.2.1)) (fun k hk => by simp only; omega) _)) (fun k hk => by omega)
   ·have ht1 : ((z1.length : Int) == 1) = false := by
     have : ¬ (z1.length : Int) = 1 := by omega
     simpa using this
    have hdg := nat_digit.ev HW1.out (by omega) (by rw [HZB.out]; exact hB0) m (by rw [HZB.out]; exact hmB)
    rw [HZB.out] at hdg
    obtain ⟨kd, hkd⟩ := hdg
    have HDG : Aside0 (nat_digit.f kd (Num.nd m) z1 = some (((m / B : Nat) : Int), Num.nd (m % B))) := ⟨hkd kd (Nat.le_refl _)⟩
    have hlm : (Num.nd m).length ≤ z1.length + 1 := Num.nd_length_le (by
     have h1 := Num.nv_lt HW1.out
     rw [HZB.out] at h1
     rw [Nat.mul_add, Nat.pow_add, Nat.mul_comm (2 ^ (32 * z1.length))]
     exact Nat.lt_of_lt_of_le hmB (Nat.mul_le_mul_left 4294967296 (Nat.le_of_lt h1)))
    clear hl1e hkd
    gi_wp2_with (first | (gi_at_builtin; refine Mem.wpListIn_append_rows W.heap.size rfl (.tmp 28) (.tmp 29) 23 89 rfl Try.underlying23 info89 (.slice (some ⟨W.heap.size, 0, none⟩) 1 1) [(u : Int)] (Num.nd R) Ar (Num.nd R).length cr rfl rfl (Mem.R_lit1 W _ _) (Kd.C_alloc HLR.out _) (by simp) hlr4 ?_; intro v1 w1 hv1 hg1; rw [← HL1.out] at hv1; obtain ⟨A1', c1', hv1'⟩ := Kd.R_slice hv1; subst hv1'; have hW1 : Below W.heap.size W w1 := ((Below.refl W.heap.size W).alloc (Nat.le_refl _) _).grown hg1 (by simp) (fun k hk => by simp [Value.ownBlock] at hk; omega)) | (refine ⟨trivial, ?_⟩; gi_at_call 71; (with_reducible refine (CallsIn.inRound l (callsIn_wide.2 (nat_trim.calls _ _ _ L1 _ _ (Kd.R_reads' hv1).2.2 (Kd.R_reads' hv1).2.1 HTr1.out))).mono ?_); rintro e w2 ⟨v2, rfl, ho2, hb2⟩; obtain ⟨A2, c2, hv2⟩ := Kd.R_slice ho2; subst hv2; have hW2 : Below W.heap.size W w2 := hW1.trans (hb2.mono hW1.size); have bR2 : Boxed w2 (w4.heap.size + 1) 23 (.slice Ar (Num.nd R).length cr) := (hW2.block _ bR'.lt).trans bR'; have hcR2 := bR2.cell; have hfR2 := bR2.frozen; have bR9 := bR2.set (.slice A2 (Num.nd m).length c2); have hcR9 := bR9.cell; have bB9 : Boxed (w2.setCell ⟨w4.heap.size + 1, 0, none⟩ (.slice A2 (Num.nd m).length c2)) w.heap.size 23 (.slice Az1 z1.length cz1) := Boxed.other ((hW2.block _ bBW.lt).trans bBW) (by omega) _; have hcB9 := bB9.cell; have ho9 := Kd.R_far (p := ⟨w4.heap.size + 1, 0, none⟩) (Kd.R_mono (Kd.R_bound ho2) (ok' := fun k => w1.heap.size ≤ k) (fun k hk => hk.2.1)) (fun k hk => by have := hW1.size; have := bR'.lt; simp only; omega) (.slice A2 (Num.nd m).length c2)))
    have hT2 : Mem.Turn W3.heap.size (w4.heap.size + 1 + 1) W w2 := Mem.Turn.below hW2 hsB0 hBsW
    have hT9 := hT2.trans (Mem.Turn.set w2 0 (b := w4.heap.size + 1) (by omega) (by omega) (.slice A2 (Num.nd m).length c2))
    have hs9 : w2.heap.size ≤ (w2.setCell ⟨w4.heap.size + 1, 0, none⟩ (.slice A2 (Num.nd m).length c2)).heap.size := by simp [World.setCell]
    have hs2 := hW2.size
    have hsw1 := hW1.size
    have bO9 : Boxed (w2.setCell ⟨w4.heap.size + 1, 0, none⟩ (.slice A2 (Num.nd m).length c2)) w4.heap.size 23 (.slice Ao z0.length co) := Mem.boxed_set ((hW2.block _ bO'.lt).trans bO') 0 (by omega) _
    have RO9 := Kd.R_far (p := ⟨w4.heap.size + 1, 0, none⟩) (Kd.R_below HRO.out hW2) (fun k hk => by have := (hgo.out k hk.symm).2; simp only; omega) (.slice A2 (Num.nd m).length c2)
    have hC1 : Kd.C (Kd.int .u32) (w2.setCell ⟨w4.heap.size + 1, 0, none⟩ (.slice A2 (Num.nd m).length c2)) Az1 z1.length z1 := Kd.C_below (Kd.R_reads' R13).2.2 (HB.out.trans hT9.kb.1)
    have hV9 := Kd.V_mono (Kd.R_V (base' := (w2.setCell ⟨w4.heap.size + 1, 0, none⟩ (.slice A2 (Num.nd m).length c2)).heap.size) ho9) (ok' := fun k => W5.heap.size ≤ k) (fun k hk => Nat.le_trans (by omega) hk)
    generalize (w2.setCell ⟨w4.heap.size + 1, 0, none⟩ (.slice A2 (Num.nd m).length c2)) = W9 at hT9 hs9 bR9 hcR9 bB9 hcB9 ho9 bO9 RO9 hC1 hV9 ⊢
    have hOl := (Kd.R_reads' RO9).1
    obtain ⟨go, cap, hge, hg1, hg2, _⟩ := Kd.R_form RO9 (by omega)
    rw [← hOl] at hge
    obtain ⟨hAo, hco⟩ : Ao = some ⟨go, 0, none⟩ ∧ co = cap := by
     injection hge with e1 e2 e3
     exact ⟨e1, e3⟩
    have hgo4 := (hgo.out go (by rw [hAo]; rfl)).2
    have hlo9 : W3.heap.size ≤ go := (hgo.out go (by rw [hAo]; rfl)).1
    subst hAo
    subst hco
    obtain ⟨hcq, hfq⟩ := Kd.R_celln 0 RO9 (q : Int) (by omega) (by omega)
    simp only [Int.toNat_natCast] at hcq hfq
    refine wpIn_piece _ (nat_DivMod.reg14 l w.heap.size w4.heap.size (w4.heap.size + 1) q m B W5.heap.size go cz1 z0.length co c2 kd Az1 A2 z1 W9 _ bB9.cell bO9.cell bR9.cell bR9.frozen hC1 (Kd.R_reads' R13).2.1 hV9 hcq hfq (by omega) (by omega) bO9.lt bB9.lt bR9.lt (by omega) (by omega) HDG.out) ?_
    rintro a W12 ⟨x57, x58, x59, x60, x61, x62, x63, x64, x65, v1, w10, rfl, hW12, hb10, hv10⟩
    have hs10 := hb10.size
    have RO10 := (Kd.R_putg (Kd.R_below RO9 hb10) (q : Int) ((m / B : Nat) : Int)).1
    simp only [Int.toNat_natCast] at RO10
    have bO10 : Boxed w10 w4.heap.size 23 (.slice (some ⟨go, 0, none⟩) z0.length co) := (hb10.block _ bO9.lt).trans bO9
    have bR10 : Boxed w10 (w4.heap.size + 1) 23 (.slice A2 (Num.nd m).length c2) := (hb10.block _ bR9.lt).trans bR9
    have hT10 := (hT9.trans (Mem.Turn.below hb10 (by omega) (by omega))).trans (Mem.Turn.set w10 q (b := go) (by omega) (by omega) (.int .u32 ((m / B : Nat) : Int)))
    have bO11 := Mem.boxed_set bO10 q (b := go) (by omega) (.int .u32 ((m / B : Nat) : Int))
    have bR11 := Mem.boxed_set bR10 q (b := go) (by omega) (.int .u32 ((m / B : Nat) : Int))
    have hv11 := Kd.V_far (p := ⟨go, q, none⟩) hv10 (fun k hk => by simp only; omega) (.int .u32 ((m / B : Nat) : Int))
    rw [hW12]
    refine HEND.out _ v1 (hT10.trans (Mem.Turn.set _ 0 (b := w4.heap.size + 1) (by omega) (by omega) _)) (Mem.boxed_set bO11 0 (by omega) _) (Kd.R_far RO10 (p := ⟨w4.heap.size + 1, 0, none⟩) (fun k hk => by have := (hgo.out k hk.symm).2; simp only; omega) _) (bR11.set _) (Kd.V_far (p := ⟨w4.heap.size + 1, 0, none⟩) hv11 (fun k hk => by simp only; omega) _)
  case done =>
   rintro D ys W hD rfl ⟨hB5W, bO', RO', vr, bR', VR'⟩ hK
   have hB := hB5.trans hB5W
   obtain ⟨qs, hq1, hq2, hq3, hq4⟩ := nat_DivMod.st_range z0 HW0.out HN.out z0.length (Nat.le_refl _)
   have hnz : Num.nv z0 = Num.nv l0 := by rw [HZ0.out, Num.nv_nd]
   rw [Nat.sub_self, List.drop_zero, hnz] at hq3 hq4
   rw [List.replicate_zero, List.nil_append] at hq4
   rw [hq4] at RO' VR'
   simp only at RO' VR'
   obtain ⟨Avr, cvr, hvr⟩ := Kd.V_slice VR'
   subst hvr
   obtain ⟨kt, hkt⟩ := nat_trim.ev hq2 (by rw [hq1]; omega)
   rw [hq3] at hkt
   have HT15 : Aside0 (nat_trim.f kt qs = some (Num.nd (Num.nv l0 / Num.nv l1))) := ⟨hkt kt (Nat.le_refl _)⟩
   have hRO := (Kd.R_reads' RO').2.2
   have hRc := (Kd.R_reads' RO').2.1
   rw [← hq1] at hRc
   have HRO := Aside0.mk hRO
   have HRC := Aside0.mk hRc
   have HVR := Aside0.mk VR'
   have HB := Aside0.mk hB
   have HB3 := Aside0.mk hB3
   have hcO := bO'.cell
   have hcR := bR'.cell
   rw [← hq1] at hcO
   have HK := Aside0.mk hK
   clear hq1 hq2 hq3 hq4 hkt hRO hRc RO' VR' hB HZ0 row0 row1 RO R03 R13 hK
   gi_wp2
   go_wp2
   refine wp_piece (fun a W3' => ∃ At nt ct, a = { tmps := (Value.slice Az0 z0.length cz0 :: Value.slice A1 l1.length c1 :: undef :: Value.pointer (some ⟨w.heap.size, 0, none⟩) :: Value.slice At nt ct :: Value.slice Avr (Num.nd (Num.nv l0 % Num.nv l1)).length cvr :: Value.int .i64 0 :: Value.pointer (some ⟨w4.heap.size, 0, none⟩) :: Value.pointer (some ⟨w4.heap.size + 1, 0, none⟩) :: undef :: undef :: undef :: undef :: Value.slice A0 l0.length c0 :: Value.slice Az0 z0.length cz0 :: Value.slice A1 l1.length c1 :: Value.slice Az1 z1.length cz1 :: Value.slice Az1 z1.length cz1 :: Value.int .i64 (z1.length : Int) :: Value.bool false :: Value.slice Az0 z0.length cz0 :: Value.int .i64 (z0.length : Int) :: Value.slice Ao z0.length co :: Value.slice Az0 z0.length cz0 :: Value.func (.func 94) #[] #[.pointer (some ⟨w4.heap.size + 1 + 1, 0, none⟩)] :: undef :: undef :: undef :: undef :: undef :: undef :: undef :: undef :: undef :: undef :: undef :: undef :: undef :: undef :: undef :: undef :: undef :: undef :: undef :: undef :: undef :: undef :: undef :: undef :: undef :: undef :: undef :: undef :: undef :: undef :: undef :: undef :: undef :: undef :: undef :: undef :: undef :: undef :: undef :: undef :: undef :: Value.slice Ao qs.length co :: Value.slice At nt ct :: Value.slice Avr (Num.nd (Num.nv l0 % Num.nv l1)).length cvr :: []).toArray, defers := [{ target := .collected D, args := #[] }] } ∧ Kd.R (Kd.int .u32) 89 W3' W.heap.size (fun _ => True) (.slice At nt ct) (Num.nd (Num.nv l0 / Num.nv l1)) ∧ Below W.heap.size W W3') ?_ ?_
   ·go_region_with (go_at_call 71; (with_reducible refine (nat_trim.calls _ _ _ qs _ _ (Kd.C_below HRO.out (Below.drew (Below.refl _ W))) HRC.out HT15.out).mono ?_); rintro e w15 ⟨v15, rfl, ho15, hb15⟩; obtain ⟨At, ct, hvt⟩ := Kd.R_slice ho15; subst hvt; have hcR15 := (hb15.cell (p := ⟨w4.heap.size + 1, 0, none⟩) bR'.lt).trans hcR)
    all_goals exact ⟨_, _, _, rfl, ho15, (Below.drew (Below.refl _ W)).trans hb15⟩
   rintro a W15 ⟨At, nt, ct, rfl, ho15, hb15⟩
   refine only_then ?_
   have hK15 : W15.heap[D]? = some (.deferred (some [])) := (hb15.block D (Array.getElem?_eq_some_iff.1 HK.out).1).trans HK.out
   go_wp2
   have hs15 := hb15.size
   have hsB := HB.out.size
   have hsB3 := HB3.out.size
   have hsW5 := hB5W.size
   have hs35 := hB5.size
   refine ⟨(by intro e; cases e), .inl ⟨D, W15.putObj D (.deferred none), rfl, run_takeDeferred hK15, ?_⟩⟩
   refine ⟨_, results_tmp3 rfl _ _ _, _, _, rfl, ?_, ?_, ?_⟩
   ·exact (Mem.R_own (β := Unit) 89 w.heap.size _ _ (fun _ => Num.nd (Num.nv l0 / Num.nv l1))).putObj (s := ()) _ (Kd.R_lower (Kd.R_mono (Kd.R_bound ho15) (ok' := fun k => w.heap.size ≤ k) (fun k hk => Nat.le_trans (by omega) hk.2.1)) (by omega)) hK15 rfl
   ·exact Mem.V_put (Kd.V_mono (Kd.V_elder' HVR.out (fun k hk => Kd.R_base ho15 k hk) hb15) (fun k hk => ⟨by omega, hk.2⟩)) hK15 rfl _
   ·exact ((HB3.out.trans (HB.out.mono hsB3)).trans (hb15.mono (by omega))).trans (belowK_b (w := W5) (by omega) W15 D _ _ hD hK15 rfl rfl)
  case stop =>
   rintro D c pre W _ _ h _
   exact h.elim
end
/-! ### slices_Reverse_byte_byte: function 84 -/
def slices_Reverse_byte_byte.l0 : Nat → List Int → Int → Int → Option (List Int)
 | 0, _, _, _ => none
 | k + 1, x0, x2, x3 => if x2 < x3 then (if 0 ≤ x3 then (if x3 < (x0.length : Int) then (if 0 ≤ x2 then (if x2 < (x0.length : Int) then (slices_Reverse_byte_byte.l0 k ((x0.set (x2 : Int).toNat (rd x0 x3)).set (x3 : Int).toNat (rd x0 x2)) (wrap64 (x2 + 1)) (wrap64 (x3 - 1))) else (none)) else (none)) else (none)) else (none)) else (some x0)
def slices_Reverse_byte_byte.f (k : Nat) (l0 : List Int) : Option (List Int) := slices_Reverse_byte_byte.l0 k l0 0 (wrap64 ((l0.length : Int) - 1))
def slices_Reverse_byte_byte.T3 : Bool × List (List Nat × List Nat) := (true, [([], []), ([], []), ([], []), ([], []), ([], []), ([], []), ([4, 5], [4, 5]), ([6], [6]), ([], []), ([], []), ([8, 9], [8, 9]), ([10], [10]), ([0, 1, 0, 1, 4, 5, 6, 7, 11], [0, 1]), ([12, 7, 0, 1, 4, 5, 6, 7, 11], [7, 12]), ([2, 3, 0, 1, 2, 3, 4, 5, 6, 7, 8, 9, 10, 11, 12, 13], [2, 3]), ([14, 11, 13, 0, 1, 2, 3, 4, 5, 6, 7, 8, 9, 10, 11, 12, 13], [11, 14])])
def slices_Reverse_byte_byte.B3 : List Nat := [0, 0, 0, 0, 0, 0, 48, 112, 0, 0, 768, 1792, 4083, 8179, 16383, 32767]
theorem slices_Reverse_byte_byte.tab3 : rtab .any (opsOf Try.f84 3) = slices_Reverse_byte_byte.T3 := by kernel_rfl
theorem slices_Reverse_byte_byte.bits3 : waitsOk slices_Reverse_byte_byte.T3.2 slices_Reverse_byte_byte.B3 = true := by kernel_rfl
set_option maxHeartbeats 8000000 in
set_option maxRecDepth 100000 in
theorem slices_Reverse_byte_byte.calls (k : Nat) (P0_ : Nat → Prop) (u9000_ : Value) (l0 : List Int) (r : List Int) (w0 w : World) (hB : Below w0.heap.size w0 w) (ho0 : Kd.R (Kd.int .u8) 5 w w0.heap.size P0_ u9000_ l0) (h : slices_Reverse_byte_byte.f k l0 = some r) :
  Calls Try.prog 84 #[u9000_] w fun e w' => e = .returned (.tuple #[]) ∧ Kd.R (Kd.int .u8) 5 w' w0.heap.size (fun k_ => (P0_ k_ ∨ w.heap.size ≤ k_)) u9000_ r ∧ Below w0.heap.size w0 w' ∧ Kept w w' (fun k_ => P0_ k_) := by
 have HO0 := Aside0.mk (show Kd.R (Kd.int .u8) 5 w w0.heap.size (fun k_ => (P0_ k_ ∨ w.heap.size ≤ k_)) u9000_ l0 from Kd.R_mono ho0 (fun k_ hk => (.inl hk)))
 have HK := Aside0.mk (Kept.refl w (fun k_ => P0_ k_))
 have HW0 := Aside0.mk hB.size
 have HB := Aside0.mk hB
 clear hB
 have H : (slices_Reverse_byte_byte.l0 k l0 0 (wrap64 ((l0.length : Int) - 1))) = some r := h
 clear h
 have H' := Aside0.mk H
 clear H
 obtain ⟨Ao2, co2, eo2⟩ := Kd.R_slice HO0.out
 subst eo2
 go_enter Try.func84, Try.ntmps84
 go_wp2
 go_loopg [2, 3] k (fun kq v2 v3 w' => ∃ (x0_1 : List Int) (x2_1 : Int) (x3_1 : Int), v2 = .int .i64 x2_1 ∧ v3 = .int .i64 x3_1 ∧ Aside0 (slices_Reverse_byte_byte.l0 kq x0_1 x2_1 x3_1 = some r) ∧ Aside0 (kq ≤ k) ∧ Aside0 (Kd.R (Kd.int .u8) 5 w' w0.heap.size (fun k_ => (P0_ k_ ∨ w.heap.size ≤ k_)) (.slice Ao2 l0.length co2) x0_1) ∧ Aside0 (Kept w w' (fun k_ => P0_ k_)) ∧ Aside0 (Below w0.heap.size w0 w'))
 case atStart => exact ⟨(l0), (0), (wrap64 ((l0.length : Int) - 1)), (by first | rfl | (simp; done) | (simp [*]; done)), (by first | rfl | (simp; done) | (simp [*]; done)), H', ⟨Nat.le_refl _⟩, ⟨by (with_reducible repeat (first | apply Kd.R_alloc | apply Kd.R_drewN | apply Kd.R_drew)); exact HO0.out⟩, ⟨by repeat (first | (with_reducible first | exact HK.out | apply Kept.alloc | apply Kept.drewN | apply Kept.drew) | exact HK.out)⟩, ⟨by repeat (first | (with_reducible first | exact HB.out | apply below_alloc | apply pw_below_drewN | apply below_drew1) | exact HB.out)⟩⟩
 case round =>
  clear H'
  try clear p2
  obtain ⟨x0_1, x2_1, x3_1, rfl, rfl, HA, HK1, HO_0, HK, HB⟩ := hrel
  have hl0_1 := (Kd.R_reads' HO_0.out).1
  rw [hl0_1] at HO_0
  (try simp only [hl0_1])
  cases gk with
  | zero => exact absurd HA.out (by simp [slices_Reverse_byte_byte.l0])
  | succ k1 =>
   have H := HA.out
   clear HA
   simp only [slices_Reverse_byte_byte.l0] at H
   by_cases c3 : x2_1 < x3_1
   ·rw [if_pos c3] at H
    have c3b0 : decide (x2_1 < x3_1) = true := decide_eq_true c3
    clear c3
    by_cases c4 : 0 ≤ x3_1
    ·rw [if_pos c4] at H
     have c4b0 : decide (0 ≤ x3_1) = true := decide_eq_true c4
     clear c4
     by_cases c5 : x3_1 < (x0_1.length : Int)
     ·rw [if_pos c5] at H
      have c5b0 : decide (x3_1 < (x0_1.length : Int)) = true := decide_eq_true c5
      clear c5
      by_cases c6 : 0 ≤ x2_1
      ·rw [if_pos c6] at H
       have c6b0 : decide (0 ≤ x2_1) = true := decide_eq_true c6
       clear c6
       by_cases c7 : x2_1 < (x0_1.length : Int)
       ·rw [if_pos c7] at H
        have c7b0 : decide (x2_1 < (x0_1.length : Int)) = true := decide_eq_true c7
        clear c7
        obtain ⟨y190, hy190⟩ : ∃ y_ : List Int, y_ = (x0_1.set (x2_1 : Int).toNat (rd x0_1 x3_1)) := ⟨_, rfl⟩
        replace H : (slices_Reverse_byte_byte.l0 k1 (y190.set (x3_1 : Int).toNat (rd x0_1 x2_1)) (wrap64 (x2_1 + 1)) (wrap64 (x3_1 - 1))) = some r := by first | (rw [hy190]; with_reducible exact H) | (have H2_ := (Option.bind_some _ _).symm.trans H; rw [hy190]; with_reducible exact H2_) | (have H2_ := (Option.bind_some _ _).symm.trans H; with_reducible exact H2_) | with_reducible exact H | (rw [hy190]; exact H) | exact H
        have Ny190 := Aside0.mk hy190
        clear hy190
        obtain ⟨y191, hy191⟩ : ∃ y_ : List Int, y_ = (y190.set (x3_1 : Int).toNat (rd x0_1 x2_1)) := ⟨_, rfl⟩
        replace H : (slices_Reverse_byte_byte.l0 k1 y191 (wrap64 (x2_1 + 1)) (wrap64 (x3_1 - 1))) = some r := by first | (rw [hy191]; with_reducible exact H) | (have H2_ := (Option.bind_some _ _).symm.trans H; rw [hy191]; with_reducible exact H2_) | (have H2_ := (Option.bind_some _ _).symm.trans H; with_reducible exact H2_) | with_reducible exact H | (rw [hy191]; exact H) | exact H
        have Ny191 := Aside0.mk hy191
        clear hy191
        have H' := Aside0.mk H
        clear H
        try go_wp2
        replace HO_0 := Aside0.mk (Kd.R_drew HO_0.out)
        replace HK := Aside0.mk (Kept.drew HK.out)
        replace HB := Aside0.mk (below_drew1 HB.out)
        have p188 : 0 ≤ (x3_1 : Int) := of_decide_eq_true (by first | (with_reducible assumption) | assumption)
        have q188 : x3_1 < (x0_1.length : Int) := of_decide_eq_true (by first | (with_reducible assumption) | assumption)
        obtain ⟨ad188, e188, hx188_0⟩ := Kd.at_int (Kd.R_reads' HO_0.out).2.2 x3_1 p188 q188
        cases e188
        replace p188 := eq_true p188
        replace q188 := eq_true q188
        have p189 : 0 ≤ (x2_1 : Int) := of_decide_eq_true (by first | (with_reducible assumption) | assumption)
        have q189 : x2_1 < (x0_1.length : Int) := of_decide_eq_true (by first | (with_reducible assumption) | assumption)
        obtain ⟨ad189, e189, hx189_0⟩ := Kd.at_int (Kd.R_reads' HO_0.out).2.2 x2_1 p189 q189
        obtain rfl : ad188 = ad189 := (by injection e189)
        replace p189 := eq_true p189
        replace q189 := eq_true q189
        have p8 : 0 ≤ (x2_1 : Int) := of_decide_eq_true (by first | (with_reducible assumption) | assumption)
        have q8 : (x2_1 : Int) < ((x0_1.length : Int) : Int) := of_decide_eq_true (by first | (with_reducible assumption) | assumption)
        obtain ⟨go8, co8, eo8, gb8, gl8, cl8, HG8⟩ := Kd.R_form HO_0.out (by omega)
        (first | cases eo8 | (injection eo8 with ea_ en_ ec_; (first | subst ea_ | (injection ea_ with ea_; subst ea_)); subst ec_; clear en_))
        have GB8 := Aside0.mk gb8
        have GG8 := Aside0.mk HG8
        clear gb8 gl8 HG8
        have HMgo8 := Aside0.mk (show (P0_ go8 ∨ w.heap.size ≤ go8) from (HO_0.out.1 _ rfl))
        (first | simp only [add_plain] at hx188_0 | skip)
        (first | simp only [add_plain] at hx189_0 | skip)
        obtain ⟨hx8_0, hf8_0⟩ := Kd.R_celln 0 HO_0.out (x2_1 : Int) p8 q8
        replace p8 := eq_true p8
        replace q8 := eq_true q8
        have HP11 := Kd.R_putn HO_0.out (x2_1 : Int) (rd x0_1 x3_1)
        rw [← Ny190.out] at HP11
        have HQ11 := Aside0.mk HP11
        clear HP11
        have p9 : 0 ≤ (x3_1 : Int) := of_decide_eq_true (by first | (with_reducible assumption) | assumption)
        have q9 : (x3_1 : Int) < ((x0_1.length : Int) : Int) := of_decide_eq_true (by first | (with_reducible assumption) | assumption)
        obtain ⟨hx9_0, hf9_0⟩ := Kd.R_celln 0 HQ11.out (x3_1 : Int) p9 q9
        replace p9 := eq_true p9
        replace q9 := eq_true q9
        have HP12 := Kd.R_putn HQ11.out (x3_1 : Int) (rd x0_1 x2_1)
        rw [← Ny191.out] at HP12
        have HQ12 := Aside0.mk HP12
        clear HP12
        refine start_ (n := 16) (S := fun w' => w'.cell? ⟨go8, (x3_1).toNat, none⟩ = some (.int .u8 (rd x0_1 x3_1)) ∧ w'.cell? ⟨go8, (x2_1).toNat, none⟩ = some (.int .u8 (rd x0_1 x2_1))) (ds := [13, 15]) #[false, false, false, false, false, false, false, false, false, false, false, false, false, false, false, false] (by kernel_rfl) rfl rfl ⟨hx188_0, hx189_0⟩ (fun hHeld => ?_); refine with_tabW slices_Reverse_byte_byte.tab3 slices_Reverse_byte_byte.bits3 (fun HT_ HW_ => ?_)
        generalize wr.drew = w10 at HO_0 HK HB GG8 HQ11 HQ12 hf8_0 hf9_0 hx188_0 hx189_0 hx8_0 hx9_0 hHeld ⊢
        refine Short.pureS_ (i := 0) (N := some 14) #[true, false, false, false, false, false, false, false, false, false, false, false, false, false, false, false] (any_of HT_.out (by kernel_rfl)) ?_
        refine Short.pureS_ (i := 1) (N := some 15) #[true, true, false, false, false, false, false, false, false, false, false, false, false, false, false, false] (any_of HT_.out (by kernel_rfl)) ?_
        refine Short.pureS_ (i := 2) (N := some 16) #[true, true, true, false, false, false, false, false, false, false, false, false, false, false, false, false] (any_of HT_.out (by kernel_rfl)) ?_
        refine Short.pureS_ (i := 3) (N := some 17) #[true, true, true, true, false, false, false, false, false, false, false, false, false, false, false, false] (any_of HT_.out (by kernel_rfl)) ?_
        refine Short.pureS_ (i := 4) (N := some 18) #[true, true, true, true, true, false, false, false, false, false, false, false, false, false, false, false] (any_of HT_.out (by kernel_rfl)) ?_
        refine Short.pureS_ (i := 5) (N := some 19) #[true, true, true, true, true, true, false, false, false, false, false, false, false, false, false, false] (any_of HT_.out (by kernel_rfl)) ?_
        refine Short.pureS_ (i := 6) (N := some 20) #[true, true, true, true, true, true, true, false, false, false, false, false, false, false, false, false] (any_of HT_.out (by kernel_rfl)) ?_
        refine Short.pureS_ (i := 8) (N := some 22) #[true, true, true, true, true, true, true, false, true, false, false, false, false, false, false, false] (any_of HT_.out (by kernel_rfl)) ?_
        refine Short.pureS_ (i := 9) (N := some 23) #[true, true, true, true, true, true, true, false, true, true, false, false, false, false, false, false] (any_of HT_.out (by kernel_rfl)) ?_
        refine Short.pureS_ (i := 10) (N := some 24) #[true, true, true, true, true, true, true, false, true, true, true, false, false, false, false, false] (any_of HT_.out (by kernel_rfl)) ?_
        refine Short.takeS_ (i := 7) (N := some 21) #[true, true, true, true, true, true, true, true, true, true, true, false, false, false, false, false] (take_ofW HT_.out HW_.out (by kernel_rfl)) hHeld ?_
        refine Short.takeS_ (i := 11) (N := some 25) #[true, true, true, true, true, true, true, true, true, true, true, true, false, false, false, false] (take_ofW HT_.out HW_.out (by kernel_rfl)) hHeld ?_
        refine Short.pureS_ (i := 12) (N := some 26) #[true, true, true, true, true, true, true, true, true, true, true, true, true, false, false, false] (any_of HT_.out (by kernel_rfl)) ?_
        refine last_ (i := 13) (N := none) #[true, true, true, true, true, true, true, true, true, true, true, true, true, true, false, false] rfl rfl (one_of HT_.out (by kernel_rfl)) (by decide) (fun K hK => ?_)
        refine skip_ (w1 := ?_) (by rfl) rfl ?_ ?_
        rotate_left
        ·go_simp
         rfl
        refine hK.out _ _ ?_
        clear hK K
        refine Short.pureS_ (i := 14) (N := some 27) #[true, true, true, true, true, true, true, true, true, true, true, true, true, true, true, false] (any_of HT_.out (by kernel_rfl)) ?_
        refine last_ (i := 15) (N := none) #[true, true, true, true, true, true, true, true, true, true, true, true, true, true, true, true] rfl rfl (one_of HT_.out (by kernel_rfl)) (by decide) (fun K hK => ?_)
        refine skip_ (w1 := ?_) (by rfl) rfl ?_ ?_
        rotate_left
        ·go_simp
         rfl
        refine hK.out _ _ ?_
        clear hK K
        refine done_ (done_of HT_.out (by kernel_rfl)) ?_
        try go_wp2
        (try simp only [← hl0_1])
        go_roundg k1
        case measure => have := HK1.out; omega
        case rel => exact ⟨(y191), (wrap64 (x2_1 + 1)), (wrap64 (x3_1 - 1)), (by first | rfl | (simp; done) | (simp [*]; done)), (by first | rfl | (simp; done) | (simp [*]; done)), H', ⟨by have := HK1.out; omega⟩, ⟨by (try simp only [hl0_1]); (with_reducible repeat (first | apply Kd.R_alloc | apply Kd.R_drewN | apply Kd.R_drew)); exact HQ12.out⟩, ⟨by repeat (first | (with_reducible first | exact HK.out | apply Kept.alloc | apply Kept.drewN | apply Kept.drew | refine Kept.setCell ?_ HMgo8.out _ | refine Kept.setCell ?_ HMgo8.out _) | exact HK.out)⟩, ⟨by repeat (first | (with_reducible first | exact HB.out | apply below_alloc | apply pw_below_drewN | apply below_drew1 | refine below_set ?_ GB8.out | refine below_set ?_ GB8.out) | exact HB.out)⟩⟩
       ·rw [if_neg c7] at H
        exact absurd H (by simp)
      ·rw [if_neg c6] at H
       exact absurd H (by simp)
     ·rw [if_neg c5] at H
      exact absurd H (by simp)
    ·rw [if_neg c4] at H
     exact absurd H (by simp)
   ·rw [if_neg c3] at H
    have c3b0 : decide (x2_1 < x3_1) = false := decide_eq_false c3
    clear c3
    obtain rfl := Option.some.inj H
    go_wp2
    first | go_end0 | ((try simp only [Exit.inBlock, Exit.then]); refine bodyPost_ret (results_none rfl _ _ _) rfl ?_)
    exact ⟨by rfl, (by first | exact HO_0.out | (simp only [hl0_1]; exact HO_0.out)), by repeat (first | (with_reducible first | exact HB.out | apply below_alloc | apply pw_below_drewN | apply below_drew1) | exact HB.out), by repeat (first | (with_reducible first | exact HK.out | apply Kept.alloc | apply Kept.drewN | apply Kept.drew) | exact HK.out)⟩

theorem slices_Reverse_byte_byte.ev_l {l : List Int} (hl : l.length < 9223372036854775807) (d : Nat) : ∀ (y : List Int) (i : Nat), i ≤ l.length → l.length - 2 * i ≤ d → y.length = l.length → (∀ p, p < l.length → y.getD p 0 = if p < i ∨ l.length < p + 1 + i then l.getD (l.length - 1 - p) 0 else l.getD p 0) →
  Ev (fun k => slices_Reverse_byte_byte.l0 k y (i : Int) ((l.length : Int) - 1 - (i : Int))) l.reverse := by
 have stop : ∀ (y : List Int) (i : Nat), i ≤ l.length → l.length ≤ 2 * i + 1 → y.length = l.length → (∀ p, p < l.length → y.getD p 0 = if p < i ∨ l.length < p + 1 + i then l.getD (l.length - 1 - p) 0 else l.getD p 0) →
   Ev (fun k => slices_Reverse_byte_byte.l0 k y (i : Int) ((l.length : Int) - 1 - (i : Int))) l.reverse := by
  intro y i hi hd hy hp
  refine Ev.step (f := fun _ => some y) (fun k => ?_) ?_
  ·rw [slices_Reverse_byte_byte.l0, if_neg (by omega)]
  ·have : y = l.reverse := by
    refine List.ext_getElem (by rw [List.length_reverse]; exact hy) (fun p h1 h2 => ?_)
    rw [List.length_reverse] at h2
    have h3 := hp p h2
    rw [List.getD_eq_getElem?_getD, List.getElem?_eq_getElem h1] at h3
    rw [List.getElem_reverse]
    have h4 : l.getD (l.length - 1 - p) 0 = l[l.length - 1 - p] := by rw [List.getD_eq_getElem?_getD, List.getElem?_eq_getElem (by omega)]; rfl
    rw [← h4]
    refine Eq.trans h3 ?_
    split
    ·rfl
    ·rw [show l.length - 1 - p = p from by omega]
   rw [this]
   exact Ev.now _
 induction d with
 | zero =>
  intro y i hi hd hy hp
  exact stop y i hi (by omega) hy hp
 | succ d ih =>
  intro y i hi hd hy hp
  by_cases hlt : l.length ≤ 2 * i + 1
  ·exact stop y i hi hlt hy hp
  ·obtain ⟨j, hj⟩ : ∃ j, j = l.length - 1 - i := ⟨_, rfl⟩
   have hji : (l.length : Int) - 1 - (i : Int) = (j : Int) := by omega
   refine Ev.step (f := fun k => slices_Reverse_byte_byte.l0 k ((y.set i (y.getD j 0)).set j (y.getD i 0)) ((i + 1 : Nat) : Int) ((l.length : Int) - 1 - ((i + 1 : Nat) : Int))) (fun k => ?_) ?_
   ·rw [slices_Reverse_byte_byte.l0, hji, if_pos (by omega), if_pos (by omega), if_pos (by omega), if_pos (by omega), if_pos (by omega), Dec.w64s _ (by omega), Dec.w64 (by omega) (by omega), Int.toNat_natCast, Int.toNat_natCast, show rd y (i : Int) = y.getD i 0 from by simp [rd], show rd y (j : Int) = y.getD j 0 from by simp [rd], show (j : Int) - 1 = (l.length : Int) - 1 - ((i + 1 : Nat) : Int) from by omega]
   ·refine ih _ (i + 1) (by omega) (by omega) (by rw [List.length_set, List.length_set]; exact hy) (fun p hpl => ?_)
    have hi1 := hp i (by omega)
    have hj1 := hp j (by omega)
    rw [if_neg (by omega)] at hi1 hj1
    have gs : ∀ (z : List Int) (a : Nat) (v : Int) (b : Nat), (z.set a v).getD b 0 = if a = b ∧ a < z.length then v else z.getD b 0 := by
     intro z a v b
     rw [List.getD_eq_getElem?_getD, List.getD_eq_getElem?_getD, List.getElem?_set]
     by_cases h : a = b
     ·subst h
      by_cases h2 : a < z.length
      ·simp [h2]
      ·simp [h2]
     ·simp [h]
    rw [gs, gs, List.length_set, hi1, hj1, hp p hpl]
    by_cases e1 : j = p
    ·subst e1
     rw [if_pos ⟨rfl, by omega⟩, if_pos (by omega), show l.length - 1 - j = i from by omega]
    ·rw [if_neg (by omega)]
     by_cases e2 : i = p
     ·subst e2
      rw [if_pos ⟨rfl, by omega⟩, if_pos (by omega), hj]
     ·rw [if_neg (by omega)]
      by_cases e3 : p < i ∨ l.length < p + 1 + i
      ·rw [if_pos e3, if_pos (by omega)]
      ·rw [if_neg e3, if_neg (by omega)]
theorem slices_Reverse_byte_byte.ev {l : List Int} (hl : l.length < 9223372036854775807) : Ev (fun k => slices_Reverse_byte_byte.f k l) l.reverse := by
 have := slices_Reverse_byte_byte.ev_l hl l.length l 0 (by omega) (by omega) rfl (fun p hp => by rw [if_neg (by omega)])
 refine Ev.congr (fun k => ?_) this
 unfold slices_Reverse_byte_byte.f
 rw [Dec.w64 (by omega) (by omega), show (l.length : Int) - 1 - ((0 : Nat) : Int) = (l.length : Int) - 1 from by omega]
 rfl
/-! ### nat_Text: function 59 -/
mutual
def nat_Text.l0 : Nat → List Int → List Int → Option (ByteArray)
 | 0, _, _ => none
 | k + 1, x0, x3 => if (x0.length : Int) > 0 then ((nat_Of.f k 1000000000).bind fun t195 => ((nat_DivMod.f k x0 t195).bind fun bt198 => ((nat_Small.f k bt198.2.1).bind fun bt205 => (nat_Text.l1 k x3 bt198.1 bt205.1 0)))) else (nat_Text.l2 k x3)
def nat_Text.l1 : Nat → List Int → List Int → Int → Int → Option (ByteArray)
 | 0, _, _, _, _ => none
 | k + 1, x3, x4, x7, x26 => if x26 < 9 then (if x3.length < 140737488355328 then (nat_Text.l1 k (x3 ++ [(IntKind.u64.wrap (48 + (Int.tmod x7 10))) % 256]) x4 (IntKind.u64.wrap (Int.tdiv x7 10)) (wrap64 (x26 + 1))) else (none)) else (nat_Text.l0 k x4 x3)
def nat_Text.l2 : Nat → List Int → Option (ByteArray)
 | 0, _ => none
 | k + 1, x3 => if (x3.length : Int) > 1 then (if 0 ≤ (wrap64 ((x3.length : Int) - 1)) then (if (wrap64 ((x3.length : Int) - 1)) < (x3.length : Int) then (if (rd x3 (wrap64 ((x3.length : Int) - 1))) = 48 then (if (wrap64 ((x3.length : Int) - 1)) ≤ (x3.length : Int) then (nat_Text.l2 k (x3.take ((wrap64 ((x3.length : Int) - 1)) : Int).toNat)) else (none)) else (if (x3.length : Int) = 0 then (some (⟨#[48]⟩ : ByteArray)) else ((slices_Reverse_byte_byte.f k x3).bind fun t214 => (some (strOfNums t214))))) else (none)) else (none)) else (if (x3.length : Int) = 0 then (some (⟨#[48]⟩ : ByteArray)) else ((slices_Reverse_byte_byte.f k x3).bind fun t215 => (some (strOfNums t215))))
end
def nat_Text.f (k : Nat) (l0 : List Int) : Option (ByteArray) := (nat_trim.f k l0).bind fun t192 => (nat_Text.l0 k t192 ([] : List Int))
set_option maxHeartbeats 8000000 in
set_option maxRecDepth 100000 in
theorem nat_Text.calls (k : Nat) (A0 : Option Addr) (c0 : Nat) (l0 : List Int) (r : ByteArray) (w : World) (hr0 : Kd.C (Kd.int .u32) w A0 l0.length l0) (hc0 : l0.length ≤ c0) (h : nat_Text.f k l0 = some r) :
  Calls Try.prog 59 #[.slice A0 l0.length c0] w fun e w' => e = .returned (.string r) ∧ Below w.heap.size w w' := by
 have HR0 := Aside0.mk hr0
 have HC0 := Aside0.mk hc0
 clear hr0 hc0
 have HB := Aside0.mk (Below.refl w.heap.size w)
 have H : ((nat_trim.f k l0).bind fun t192 => (nat_Text.l0 k t192 ([] : List Int))) = some r := h
 clear h
 replace H := Option.bind_eq_some_iff.mp H
 obtain ⟨t192, A20, H⟩ := H
 try dsimp only at H
 have A2 := Aside0.mk A20
 clear A20
 have H' := Aside0.mk H
 clear H
 go_enter Try.func59, Try.ntmps59
 go_wp2_with (first | ((with_reducible refine gate_callee (f := 71) rfl ?_); refine Short.goesS_ (some 10) Try.func71 #[.slice A0 l0.length c0] ?_; (with_reducible refine (nat_trim.calls k _ _ l0 t192 _ HR0.out HC0.out A2.out).mono ?_); rintro e w3 ⟨v193, rfl, ho0, hb⟩; refine ⟨_, rfl, ?_⟩; have HO194 := Aside0.mk (Kd.R_lower ho0 (below_size (by repeat (first | (with_reducible first | exact HB.out | apply below_alloc | apply pw_below_drewN | apply below_drew1) | exact HB.out)))); replace HB := Aside0.mk (below_step (by repeat (first | (with_reducible first | exact HB.out | apply below_alloc | apply pw_below_drewN | apply below_drew1) | exact HB.out)) hb); (try clear hb); (try clear ho0)))
 go_loopg [0, 3] k (fun kq v0 v3 w' => ∃ (x0_1 : List Int) (x3_1 : List Int), Aside0 (nat_Text.l0 kq x0_1 x3_1 = some r) ∧ Aside0 (kq ≤ k) ∧ Aside0 (Kd.R (Kd.int .u32) 89 w' w.heap.size (fun _ => True) v0 x0_1) ∧ Aside0 (Kd.R (Kd.int .u8) 5 w' w.heap.size (fun _ => True) v3 x3_1) ∧ Aside0 (Below w.heap.size w w'))
 case atStart => exact ⟨(t192), (([] : List Int)), H', ⟨Nat.le_refl _⟩, ⟨by (with_reducible repeat (first | apply Kd.R_alloc | apply Kd.R_drewN | apply Kd.R_drew)); exact HO194.out⟩, ⟨by first | exact Kd.R_nil _ _ _ _ _ | exact Kd.N_nil _ _ _ _ _ | exact Kd.V_nil _ _ _ _ _ | exact Kd.Q_nil _ _ _ _ _ | exact Kd.S_nil _ _ _ _ _⟩, ⟨by repeat (first | (with_reducible first | exact HB.out | apply below_alloc | apply pw_below_drewN | apply below_drew1) | exact HB.out)⟩⟩
 case round =>
  clear H'
  try clear p2
  obtain ⟨x0_1, x3_1, HA, HK1, HO_0, HO_3, HB⟩ := hrel
  cases gk with
  | zero => exact absurd HA.out (by simp [nat_Text.l0])
  | succ k1 =>
   have H := HA.out
   clear HA
   simp only [nat_Text.l0] at H
   by_cases c4 : (x0_1.length : Int) > 0
   ·rw [if_pos c4] at H
    have c4b0 : decide (0 < (x0_1.length : Int)) = true := decide_eq_true c4
    have c4b1 : decide (0 < x0_1.length) = true := decide_eq_true (by omega)
    clear c4
    replace H := Option.bind_eq_some_iff.mp H
    obtain ⟨t195, A50, H⟩ := H
    try dsimp only at H
    have A5 := Aside0.mk A50
    clear A50
    replace H := Option.bind_eq_some_iff.mp H
    obtain ⟨⟨t198, t201, t204⟩, A60, H⟩ := H
    try dsimp only at H
    have A6 := Aside0.mk A60
    clear A60
    replace H := Option.bind_eq_some_iff.mp H
    obtain ⟨⟨t205, t206⟩, A70, H⟩ := H
    replace H : (nat_Text.l1 k1 x3_1 t198 t205 0) = some r := H
    have A7 := Aside0.mk A70
    clear A70
    have H' := Aside0.mk H
    clear H
    obtain ⟨Ao8, co8, eo8⟩ := Kd.R_slice HO_0.out
    subst eo8
    go_wp2_with (first | ((with_reducible refine gate_callee (f := 37) rfl ?_); refine Short.goesS_ (some 16) Try.func37 #[.int .u64 1000000000] ?_; (with_reducible refine (nat_Of.calls k1 1000000000 t195 _ A5.out).mono ?_); rintro e w9 ⟨v196, rfl, ho0, hb⟩; refine ⟨_, rfl, ?_⟩; replace HO_3 := Aside0.mk (Kd.R_below HO_3.out hb); have HO197 := Aside0.mk (Kd.R_lower (Kd.R_new' ho0 (Kd.R_lt HO_0.out)) (below_size (by repeat (first | (with_reducible first | exact HB.out | apply below_alloc | apply pw_below_drewN | apply below_drew1) | exact HB.out)))); replace HO_0 := Aside0.mk (Kd.R_elder' HO_0.out (Kd.R_base ho0) hb); replace HB := Aside0.mk (below_step (by repeat (first | (with_reducible first | exact HB.out | apply below_alloc | apply pw_below_drewN | apply below_drew1) | exact HB.out)) hb); (try clear hb); (try clear ho0); obtain ⟨Ao10, co10, eo10⟩ := Kd.R_slice HO197.out; subst eo10) | ((with_reducible refine gate_callee (f := 70) rfl ?_); refine Short.goesS_ (some 17) Try.func70 #[.slice Ao8 x0_1.length co8, .slice Ao10 t195.length co10] ?_; (with_reducible refine (nat_DivMod.calls k1 _ _ x0_1 _ _ t195 t198 t201 t204 _ ((Kd.R_reads' HO_0.out).2.2) ((Kd.R_reads' HO_0.out).2.1) ((Kd.R_reads' HO197.out).2.2) ((Kd.R_reads' HO197.out).2.1) A6.out).mono ?_); rintro e w11 ⟨v199, v202, rfl, ho0, ho1, hb⟩; refine ⟨_, rfl, ?_⟩; have HO200 := Aside0.mk (Kd.R_lower (Kd.R_new' (Kd.R_new' (Kd.R_mono (ok' := fun k_ => True) ho0 (fun _ hk_ => trivial)) (Kd.R_lt HO_0.out)) (Kd.R_lt HO197.out)) (below_size (by repeat (first | (with_reducible first | exact HB.out | apply below_alloc | apply pw_below_drewN | apply below_drew1) | exact HB.out)))); have HO203 := Aside0.mk (Kd.V_lower (Kd.V_mono (ok' := fun k_ => some k_ ≠ (v199 : Value).ownBlock ∧ some k_ ≠ (.slice Ao8 x0_1.length co8 : Value).ownBlock ∧ some k_ ≠ (u3 : Value).ownBlock ∧ some k_ ≠ (.slice Ao10 t195.length co10 : Value).ownBlock) ho1 (fun k_ hk_ => ⟨hk_.2, (Kd.fresh' (Kd.R_lt HO_0.out) k_ hk_.1), (Kd.fresh' (Kd.R_lt HO_3.out) k_ hk_.1), (Kd.fresh' (Kd.R_lt HO197.out) k_ hk_.1)⟩)) (below_size (by repeat (first | (with_reducible first | exact HB.out | apply below_alloc | apply pw_below_drewN | apply below_drew1) | exact HB.out)))); replace HO_0 := Aside0.mk (Kd.R_elder' HO_0.out (Kd.R_base ho0) hb); replace HO_3 := Aside0.mk (Kd.R_below HO_3.out hb); replace HO197 := Aside0.mk (Kd.R_elder' HO197.out (Kd.R_base ho0) hb); replace HB := Aside0.mk (below_step (by repeat (first | (with_reducible first | exact HB.out | apply below_alloc | apply pw_below_drewN | apply below_drew1) | exact HB.out)) hb); (try clear hb); (try clear ho0); (try clear ho1); obtain ⟨Ao12, co12, eo12⟩ := Kd.V_slice HO203.out; subst eo12) | ((with_reducible refine gate_callee (f := 83) rfl ?_); refine Short.goesS_ (some 23) Try.func83 #[.slice Ao12 t201.length co12] ?_; (with_reducible refine (nat_Small.calls k1 _ _ t201 t205 t206 _ ((Kd.V_reads' HO203.out).2.2) ((Kd.V_reads' HO203.out).2.1) A7.out).mono ?_); rintro e w13 ⟨rfl, hb⟩; refine ⟨_, rfl, ?_⟩; replace HO_0 := Aside0.mk (Kd.R_below HO_0.out hb); replace HO_3 := Aside0.mk (Kd.R_below HO_3.out hb); replace HO197 := Aside0.mk (Kd.R_below HO197.out hb); replace HO200 := Aside0.mk (Kd.R_below HO200.out hb); replace HO203 := Aside0.mk (Kd.V_below HO203.out hb); replace HB := Aside0.mk (below_step (by repeat (first | (with_reducible first | exact HB.out | apply below_alloc | apply pw_below_drewN | apply below_drew1) | exact HB.out)) hb); (try clear hb)))
    go_loopg [3, 7, 26] k1 (fun kq v3 v7 v26 w' => ∃ (x3_2 : List Int) (x7_2 : Int) (x26_2 : Int), v7 = .int .u64 x7_2 ∧ v26 = .int .i64 x26_2 ∧ Aside0 (nat_Text.l1 kq x3_2 t198 x7_2 x26_2 = some r) ∧ Aside0 (kq ≤ k1) ∧ Aside0 (Kd.R (Kd.int .u8) 5 w' w.heap.size (fun _ => True) v3 x3_2) ∧ Aside0 (Kd.R (Kd.int .u32) 89 w' w.heap.size (fun _ => True) v199 t198) ∧ Aside0 (Below w.heap.size w w'))
    case atStart => exact ⟨(x3_1), (t205), (0), (by first | rfl | (simp; done) | (simp [*]; done)), (by first | rfl | (simp; done) | (simp [*]; done)), H', ⟨Nat.le_refl _⟩, ⟨by (with_reducible repeat (first | apply Kd.R_alloc | apply Kd.R_drewN | apply Kd.R_drew)); exact HO_3.out⟩, ⟨by (with_reducible repeat (first | apply Kd.R_alloc | apply Kd.R_drewN | apply Kd.R_drew)); exact Kd.R_mono HO200.out (fun _ hk => trivial)⟩, ⟨by repeat (first | (with_reducible first | exact HB.out | apply below_alloc | apply pw_below_drewN | apply below_drew1) | exact HB.out)⟩⟩
    case round =>
     clear H'
     try clear p2
     try clear c3
     try clear c4
     try clear c4b0
     try clear c4b1
     try clear c5
     try clear c7
     try clear c8
     try clear p2
     obtain ⟨x3_2, x7_2, x26_2, rfl, rfl, HA, HK2, HO_3, HO_4, HB⟩ := hrel
     cases gk with
     | zero => exact absurd HA.out (by simp [nat_Text.l1])
     | succ k2 =>
      have H := HA.out
      clear HA
      simp only [nat_Text.l1] at H
      by_cases c14 : x26_2 < 9
      ·rw [if_pos c14] at H
       have c14b0 : decide (x26_2 < 9) = true := decide_eq_true c14
       clear c14
       by_cases c15 : x3_2.length < 140737488355328
       ·rw [if_pos c15] at H
        have LMc15 := Aside0.mk c15
        clear c15
        obtain ⟨y207, hy207⟩ : ∃ y_ : List Int, y_ = (x3_2 ++ [(IntKind.u64.wrap (48 + (Int.tmod x7_2 10))) % 256]) := ⟨_, rfl⟩
        replace H : (nat_Text.l1 k2 y207 t198 (IntKind.u64.wrap (Int.tdiv x7_2 10)) (wrap64 (x26_2 + 1))) = some r := by first | (rw [hy207]; with_reducible exact H) | (have H2_ := (Option.bind_some _ _).symm.trans H; rw [hy207]; with_reducible exact H2_) | (have H2_ := (Option.bind_some _ _).symm.trans H; with_reducible exact H2_) | with_reducible exact H | (rw [hy207]; exact H) | exact H
        have Ny207 := Aside0.mk hy207
        clear hy207
        have H' := Aside0.mk H
        clear H
        go_wp2_with (first | ((with_reducible refine gate_builtin (b := .append) (xs := #[.tmp 28, .tmp 33]) rfl ?_); (try (refine gate_guard (by rfl) ?_; dsimp only)); at_builtin; refine Kd.R_append (Kd.int .u8) (w0 := w) w.heap.size rfl (.tmp 28) (.tmp 33) 103 5 (.int .u8 0) 1 rfl Try.underlying103 info5 rfl (by decide) (by omega) u3 x3_2 ((IntKind.u64.wrap (48 + (Int.tmod x7_2 10))) % 256) [.int .u8 ((IntKind.u64.wrap (48 + (Int.tmod x7_2 10))) % 256)] (fun _ => True) (fun _ => False) rfl rfl ?aP (fun _ hk => hk.elim) ?aF ?aO ?aB ?aS ?aL ?_; (case aP => exact rfl); (case aB => exact (by repeat (first | (with_reducible first | exact HB.out | apply below_alloc | apply pw_below_drewN | apply below_drew1) | exact HB.out))); (case aF => exact (fun _ _ => trivial)); (case aO => exact HO_3.out); (case aS => exact (below_size (by repeat (first | (with_reducible first | exact HB.out | apply below_alloc | apply pw_below_drewN | apply below_drew1) | exact HB.out)))); (case aL => have := LMc15.out; omega); intro v208 w16 ho hb hg hat; rw [← Ny207.out] at ho; replace HO_4 := Aside0.mk (Kd.R_over' HO_4.out (Kd.R_typed HO_3.out) (by decide) hg); replace HB := Aside0.mk (hb); have HO209 := Aside0.mk (ho); clear HO_3; clear ho hb hg hat))
        go_roundg k2
        case measure => have := HK1.out; have := HK2.out; omega
        case rel => exact ⟨(y207), (IntKind.u64.wrap (Int.tdiv x7_2 10)), (wrap64 (x26_2 + 1)), (by first | rfl | (simp; done) | (simp [*]; done)), (by first | rfl | (simp; done) | (simp [*]; done)), H', ⟨by have := HK1.out; have := HK2.out; omega⟩, ⟨by (with_reducible repeat (first | apply Kd.R_alloc | apply Kd.R_drewN | apply Kd.R_drew)); exact HO209.out⟩, ⟨by (with_reducible repeat (first | apply Kd.R_alloc | apply Kd.R_drewN | apply Kd.R_drew)); exact HO_4.out⟩, ⟨by repeat (first | (with_reducible first | exact HB.out | apply below_alloc | apply pw_below_drewN | apply below_drew1) | exact HB.out)⟩⟩
       ·rw [if_neg c15] at H
        exact absurd H (by simp)
      ·rw [if_neg c14] at H
       have c14b0 : decide (x26_2 < 9) = false := decide_eq_false c14
       clear c14
       have H' := Aside0.mk H
       clear H
       go_wp2
       go_roundg k2
       case measure => have := HK1.out; have := HK2.out; omega
       case rel => exact ⟨(t198), (x3_2), H', ⟨by have := HK1.out; have := HK2.out; omega⟩, ⟨by (with_reducible repeat (first | apply Kd.R_alloc | apply Kd.R_drewN | apply Kd.R_drew)); exact HO_4.out⟩, ⟨by (with_reducible repeat (first | apply Kd.R_alloc | apply Kd.R_drewN | apply Kd.R_drew)); exact HO_3.out⟩, ⟨by repeat (first | (with_reducible first | exact HB.out | apply below_alloc | apply pw_below_drewN | apply below_drew1) | exact HB.out)⟩⟩
   ·rw [if_neg c4] at H
    have c4b0 : decide (0 < (x0_1.length : Int)) = false := decide_eq_false c4
    have c4b1 : decide (0 < x0_1.length) = false := decide_eq_false (by omega)
    clear c4
    have H' := Aside0.mk H
    clear H
    obtain ⟨Ao17, co17, eo17⟩ := Kd.R_slice HO_0.out
    subst eo17
    go_wp2
    go_loopg [3] k1 (fun kq v3 w' => ∃ (x3_2 : List Int), Aside0 (nat_Text.l2 kq x3_2 = some r) ∧ Aside0 (kq ≤ k1) ∧ Aside0 (Kd.R (Kd.int .u8) 5 w' w.heap.size (fun _ => True) v3 x3_2) ∧ Aside0 (Below w.heap.size w w'))
    case atStart => exact ⟨(x3_1), H', ⟨Nat.le_refl _⟩, ⟨by (with_reducible repeat (first | apply Kd.R_alloc | apply Kd.R_drewN | apply Kd.R_drew)); exact HO_3.out⟩, ⟨by repeat (first | (with_reducible first | exact HB.out | apply below_alloc | apply pw_below_drewN | apply below_drew1) | exact HB.out)⟩⟩
    case round =>
     clear H'
     try clear c1
     try clear p2
     try clear c3
     try clear c4
     try clear c4b0
     try clear c4b1
     try clear c5
     try clear p6
     try clear c7
     try clear c8
     try clear c14
     try clear c14b0
     try clear c15
     try clear p2
     obtain ⟨x3_2, HA, HK2, HO_3, HB⟩ := hrel
     cases gk with
     | zero => exact absurd HA.out (by simp [nat_Text.l2])
     | succ k2 =>
      have H := HA.out
      clear HA
      simp only [nat_Text.l2] at H
      by_cases c18 : (x3_2.length : Int) > 1
      ·rw [if_pos c18] at H
       have c18b0 : decide (1 < (x3_2.length : Int)) = true := decide_eq_true c18
       have c18b1 : decide (1 < x3_2.length) = true := decide_eq_true (by omega)
       clear c18
       obtain ⟨ji19, hji19⟩ : ∃ j_ : Int, (wrap64 ((x3_2.length : Int) - 1)) = j_ := ⟨_, rfl⟩
       replace H : (if 0 ≤ (ji19) then (if (ji19) < (x3_2.length : Int) then (if (rd x3_2 (ji19)) = 48 then (if (ji19) ≤ (x3_2.length : Int) then (nat_Text.l2 k2 (x3_2.take ((ji19) : Int).toNat)) else (none)) else (if (x3_2.length : Int) = 0 then (some (⟨#[48]⟩ : ByteArray)) else ((slices_Reverse_byte_byte.f k2 x3_2).bind fun t214 => (some (strOfNums t214))))) else (none)) else (none)) = some r := by first | (rw [hji19] at H; exact H) | (simp only [hji19] at H ⊢; exact H)
       have hji19w : (IntKind.i64.wrap ((x3_2.length : Int) - 1)) = ji19 := (i64_w _).trans hji19
       by_cases c20 : 0 ≤ (ji19)
       ·rw [if_pos c20] at H
        have c20b0 : decide (0 ≤ (ji19)) = true := decide_eq_true c20
        clear c20
        by_cases c21 : (ji19) < (x3_2.length : Int)
        ·rw [if_pos c21] at H
         have c21b0 : decide ((ji19) < (x3_2.length : Int)) = true := decide_eq_true c21
         clear c21
         by_cases c22 : (rd x3_2 (ji19)) = 48
         ·rw [if_pos c22] at H
          have c22b0 : ((rd x3_2 (ji19)) == 48) = true := beq_iff_eq.mpr c22
          have c22b1 : ((rd x3_2 (ji19)) != 48) = false := bne_eq_false_iff_eq.mpr c22
          clear c22
          by_cases c23 : (ji19) ≤ (x3_2.length : Int)
          ·rw [if_pos c23] at H
           have c23b0 := eq_true c23
           have c23b1 : decide ((ji19) ≤ (x3_2.length : Int)) = true := decide_eq_true c23
           clear c23
           obtain ⟨y211, hy211⟩ : ∃ y_ : List Int, y_ = (x3_2.take ((ji19) : Int).toNat) := ⟨_, rfl⟩
           replace H : (nat_Text.l2 k2 y211) = some r := by first | (rw [hy211]; with_reducible exact H) | (have H2_ := (Option.bind_some _ _).symm.trans H; rw [hy211]; with_reducible exact H2_) | (have H2_ := (Option.bind_some _ _).symm.trans H; with_reducible exact H2_) | with_reducible exact H | (rw [hy211]; exact H) | exact H
           have Ny211 := Aside0.mk hy211
           clear hy211
           have H' := Aside0.mk H
           clear H
           obtain ⟨Ao24, co24, eo24⟩ := Kd.R_slice HO_3.out
           subst eo24
           have p210 : 0 ≤ ((ji19) : Int) := of_decide_eq_true (by first | (with_reducible assumption) | assumption)
           have q210 : (ji19) < (x3_2.length : Int) := of_decide_eq_true (by first | (with_reducible assumption) | assumption)
           obtain ⟨ad210, e210, hx210_0⟩ := Kd.at_int (Kd.R_reads' HO_3.out).2.2 (ji19) p210 q210
           cases e210
           replace p210 := eq_true p210
           replace q210 := eq_true q210
           have q25 : ((ji19) : Int) ≤ ((x3_2.length : Int) : Int) := of_decide_eq_true (by first | (with_reducible assumption) | assumption)
           obtain ⟨i025, hi025, _, hsz25, _⟩ := info_parts info5
           have hcut25 := cut_to (P := Try.prog) 103 5 .i64 Try.underlying103 hi025 (some ad210) x3_2.length co24 (ji19) (of_decide_eq_true (by first | (with_reducible assumption) | assumption)) q25 (Kd.R_reads' HO_3.out).2.1
           have hr25 := Kd.R_take (m := ((ji19) : Int).toNat) HO_3.out (by omega)
           have hy25 : y211.length = ((ji19) : Int).toNat := (by rw [Ny211.out, List.length_take]; omega)
           rw [← Ny211.out] at hr25
           rw [← hy25] at hr25 hcut25
           clear hy25 hi025 hsz25 HO_3
           have HO213 := Aside0.mk hr25
           clear hr25
           replace q25 := eq_true q25
           go_wp2
           go_roundg k2
           case measure => have := HK1.out; have := HK2.out; omega
           case rel => exact ⟨(y211), H', ⟨by have := HK1.out; have := HK2.out; omega⟩, ⟨by (with_reducible repeat (first | apply Kd.R_alloc | apply Kd.R_drewN | apply Kd.R_drew)); exact HO213.out⟩, ⟨by repeat (first | (with_reducible first | exact HB.out | apply below_alloc | apply pw_below_drewN | apply below_drew1) | exact HB.out)⟩⟩
          ·rw [if_neg c23] at H
           exact absurd H (by simp)
         ·rw [if_neg c22] at H
          have c22b0 : ((rd x3_2 (ji19)) == 48) = false := beq_eq_false_iff_ne.mpr c22
          have c22b1 : ((rd x3_2 (ji19)) != 48) = true := bne_iff_ne.mpr c22
          by_cases c26 : (x3_2.length : Int) = 0
          ·rw [if_pos c26] at H
           have c26b0 : ((x3_2.length : Int) == 0) = true := beq_iff_eq.mpr c26
           have c26b1 : ((x3_2.length : Int) != 0) = false := bne_eq_false_iff_eq.mpr c26
           clear c26
           obtain rfl := Option.some.inj H
           obtain ⟨Ao27, co27, eo27⟩ := Kd.R_slice HO_3.out
           subst eo27
           have p210 : 0 ≤ ((ji19) : Int) := of_decide_eq_true (by first | (with_reducible assumption) | assumption)
           have q210 : (ji19) < (x3_2.length : Int) := of_decide_eq_true (by first | (with_reducible assumption) | assumption)
           obtain ⟨ad210, e210, hx210_0⟩ := Kd.at_int (Kd.R_reads' HO_3.out).2.2 (ji19) p210 q210
           cases e210
           replace p210 := eq_true p210
           replace q210 := eq_true q210
           go_wp2
           go_ret
           exact ⟨by first | rfl | (simp [errW_none, errW_some] <;> rfl) | (simp only [← hji19]; first | rfl | (simp [errW_none, errW_some] <;> rfl)) | (simp [*, errW_none, errW_some] <;> rfl), by repeat (first | (with_reducible first | exact HB.out | apply below_alloc | apply pw_below_drewN | apply below_drew1) | exact HB.out)⟩
          ·rw [if_neg c26] at H
           have c26b0 : ((x3_2.length : Int) == 0) = false := beq_eq_false_iff_ne.mpr c26
           have c26b1 : ((x3_2.length : Int) != 0) = true := bne_iff_ne.mpr c26
           have c26b2 : ¬ (x3_2 = []) := fun h_ => c26 (by rw [h_]; rfl)
           replace H := Option.bind_eq_some_iff.mp H
           obtain ⟨t214, A280, H⟩ := H
           replace H : (some (strOfNums t214)) = some r := H
           have A28 := Aside0.mk A280
           clear A280
           obtain rfl := Option.some.inj H
           obtain ⟨Ao29, co29, eo29⟩ := Kd.R_slice HO_3.out
           subst eo29
           have p210 : 0 ≤ ((ji19) : Int) := of_decide_eq_true (by first | (with_reducible assumption) | assumption)
           have q210 : (ji19) < (x3_2.length : Int) := of_decide_eq_true (by first | (with_reducible assumption) | assumption)
           obtain ⟨ad210, e210, hx210_0⟩ := Kd.at_int (Kd.R_reads' HO_3.out).2.2 (ji19) p210 q210
           cases e210
           replace p210 := eq_true p210
           replace q210 := eq_true q210
           go_wp2_with (first | ((with_reducible refine gate_callee (f := 84) rfl ?_); refine Short.goesS_ (some 60) Try.func84 #[.slice (some ad210) x3_2.length co29] ?_; (with_reducible refine (slices_Reverse_byte_byte.calls k2 (fun k_ => some k_ = (.slice (some ad210) x3_2.length co29 : Value).ownBlock) (.slice (some ad210) x3_2.length co29) x3_2 t214 w _ ?side1 (Kd.R_tight rfl HO_3.out) A28.out).mono ?_); (case side1 => repeat (first | (with_reducible first | exact HB.out | apply below_alloc | apply pw_below_drewN | apply below_drew1) | exact HB.out)); rintro e w30 ⟨rfl, hy0, hb, hkp⟩; refine ⟨_, rfl, ?_⟩; replace HO_3 := Aside0.mk (Kd.R_reok rfl hy0 (fun k_ e_ => HO_3.out.1 k_ e_)); replace HB := Aside0.mk (hb); (try clear hb); (try clear hkp); (try clear hy0); have hcv31 := own_string (P := Try.prog) Try.underlying103 Try.underlying5 Try.underlying9 (Kd.own_of_R HO_3.out)))
           go_ret
           exact ⟨by first | rfl | (simp [errW_none, errW_some] <;> rfl) | (simp only [← hji19]; first | rfl | (simp [errW_none, errW_some] <;> rfl)) | (simp [*, errW_none, errW_some] <;> rfl), by repeat (first | (with_reducible first | exact HB.out | apply below_alloc | apply pw_below_drewN | apply below_drew1) | exact HB.out)⟩
        ·rw [if_neg c21] at H
         exact absurd H (by simp)
       ·rw [if_neg c20] at H
        exact absurd H (by simp)
      ·rw [if_neg c18] at H
       have c18b0 : decide (1 < (x3_2.length : Int)) = false := decide_eq_false c18
       have c18b1 : decide (1 < x3_2.length) = false := decide_eq_false (by omega)
       clear c18
       by_cases c32 : (x3_2.length : Int) = 0
       ·rw [if_pos c32] at H
        have c32b0 : ((x3_2.length : Int) == 0) = true := beq_iff_eq.mpr c32
        have c32b1 : ((x3_2.length : Int) != 0) = false := bne_eq_false_iff_eq.mpr c32
        clear c32
        obtain rfl := Option.some.inj H
        obtain ⟨Ao33, co33, eo33⟩ := Kd.R_slice HO_3.out
        subst eo33
        go_wp2
        go_ret
        exact ⟨by rfl, by repeat (first | (with_reducible first | exact HB.out | apply below_alloc | apply pw_below_drewN | apply below_drew1) | exact HB.out)⟩
       ·rw [if_neg c32] at H
        have c32b0 : ((x3_2.length : Int) == 0) = false := beq_eq_false_iff_ne.mpr c32
        have c32b1 : ((x3_2.length : Int) != 0) = true := bne_iff_ne.mpr c32
        have c32b2 : ¬ (x3_2 = []) := fun h_ => c32 (by rw [h_]; rfl)
        replace H := Option.bind_eq_some_iff.mp H
        obtain ⟨t215, A340, H⟩ := H
        replace H : (some (strOfNums t215)) = some r := H
        have A34 := Aside0.mk A340
        clear A340
        obtain rfl := Option.some.inj H
        obtain ⟨Ao35, co35, eo35⟩ := Kd.R_slice HO_3.out
        subst eo35
        go_wp2_with (first | ((with_reducible refine gate_callee (f := 84) rfl ?_); refine Short.goesS_ (some 60) Try.func84 #[.slice Ao35 x3_2.length co35] ?_; (with_reducible refine (slices_Reverse_byte_byte.calls k2 (fun k_ => some k_ = (.slice Ao35 x3_2.length co35 : Value).ownBlock) (.slice Ao35 x3_2.length co35) x3_2 t215 w _ ?side1 (Kd.R_tight rfl HO_3.out) A34.out).mono ?_); (case side1 => repeat (first | (with_reducible first | exact HB.out | apply below_alloc | apply pw_below_drewN | apply below_drew1) | exact HB.out)); rintro e w36 ⟨rfl, hy0, hb, hkp⟩; refine ⟨_, rfl, ?_⟩; replace HO_3 := Aside0.mk (Kd.R_reok rfl hy0 (fun k_ e_ => HO_3.out.1 k_ e_)); replace HB := Aside0.mk (hb); (try clear hb); (try clear hkp); (try clear hy0); have hcv37 := own_string (P := Try.prog) Try.underlying103 Try.underlying5 Try.underlying9 (Kd.own_of_R HO_3.out)))
        go_ret
        exact ⟨by rfl, by repeat (first | (with_reducible first | exact HB.out | apply below_alloc | apply pw_below_drewN | apply below_drew1) | exact HB.out)⟩

/-- The noughts at the end are taken off, and the letters turned round. -/
theorem nat_Text.ev_2 (n : Nat) : ∀ {out : List Nat}, out.length = n → n < 4000000000 → Dec.Ds out → Ev (fun k => nat_Text.l2 k (Dec.cs out)) (Dec.dec (Dec.dv out)) := by
 have fin : ∀ (out : List Nat) (d : Nat), d < 10 → Dec.Ds out → out.length < 4000000000 → (out = [] ∨ d ≠ 0) → Ev (fun k => (slices_Reverse_byte_byte.f k (Dec.cs (out ++ [d]))).bind fun t205 => (some (strOfNums t205))) (Dec.dec (Dec.dv (out ++ [d]))) := by
  intro out d hd ho hl h0
  refine Ev.bind (slices_Reverse_byte_byte.ev (by rw [Dec.cs_length, List.length_append, List.length_singleton]; omega)) ?_
  rw [Dec.str_cs]
  by_cases hd0 : d = 0
  ·rcases h0 with h0 | h0
   ·subst hd0
    subst h0
    exact Ev.now _
   ·exact absurd hd0 h0
  ·unfold Dec.dec
   rw [Dec.dc_snoc ho hd hd0]
   exact Ev.now _
 induction n with
 | zero =>
  intro out hl hn h
  obtain rfl : out = [] := List.eq_nil_of_length_eq_zero hl
  refine Ev.step (f := fun _ => some (Dec.dec (Dec.dv []))) (fun k => ?_) (Ev.now _)
  rw [nat_Text.l2, Dec.cs_length, if_neg (by rw [List.length_nil]; omega), if_pos (by rw [List.length_nil]; omega)]
  exact congrArg some Dec.dec_zero.symm
 | succ n ih =>
  intro out hl hn h
  rcases List.eq_nil_or_concat out with rfl | ⟨l', d, rfl⟩
  ·simp at hl
  ·rw [List.concat_eq_append] at hl h ⊢
   have hd : d < 10 := h.right.head
   have hn' : l'.length = n := by simpa using hl
   have hlen : (Dec.cs (l' ++ [d])).length = l'.length + 1 := by rw [Dec.cs_length, List.length_append, List.length_singleton]
   have hp : wrap64 (((Dec.cs (l' ++ [d])).length : Int) - 1) = (l'.length : Int) := by rw [hlen, Dec.w64 (by omega) (by omega)]; omega
   by_cases h0 : n = 0
   ·obtain rfl : l' = [] := List.eq_nil_of_length_eq_zero (by omega)
    refine Ev.step (f := fun k => (slices_Reverse_byte_byte.f k (Dec.cs ([] ++ [d]))).bind fun t205 => (some (strOfNums t205))) (fun k => ?_) (fin [] d hd Dec.Ds.nil (by rw [List.length_nil]; omega) (.inl rfl))
    rw [nat_Text.l2, hlen, if_neg (by rw [List.length_nil]; omega), if_neg (by rw [List.length_nil]; omega)]
   ·by_cases hd0 : d = 0
    ·subst hd0
     refine Ev.step (f := fun k => nat_Text.l2 k (Dec.cs l')) (fun k => ?_) ?_
     ·rw [nat_Text.l2, hp, hlen, if_pos (by omega), if_pos (by omega), if_pos (by omega), Dec.rd_cs, if_pos (by omega), if_pos (by omega), Int.toNat_natCast, Dec.cs_take, List.take_left]
     ·rw [Dec.dv_snoc, Nat.mul_zero, Nat.add_zero]
      exact ih hn' (by omega) h.left
    ·refine Ev.step (f := fun k => (slices_Reverse_byte_byte.f k (Dec.cs (l' ++ [d]))).bind fun t205 => (some (strOfNums t205))) (fun k => ?_) (fin l' d hd h.left (by omega) (.inr hd0))
     rw [nat_Text.l2, hp, hlen, if_pos (by omega), if_pos (by omega), if_pos (by omega), Dec.rd_cs, if_neg (by omega), if_neg (by omega)]
/-- Nine digits of what is left, then what follows. -/
theorem nat_Text.ev_1 {x4 : List Int} {r : ByteArray} (out : List Nat) (ho : Dec.Ds out) (hl : out.length < 2000000000) (m : Nat)
  (next : ∀ o2 : List Nat, o2.length = out.length + 9 → Dec.Ds o2 → Dec.dv o2 = Dec.dv out + 10 ^ out.length * m → Ev (fun k => nat_Text.l0 k x4 (Dec.cs o2)) r) (d : Nat) : ∀ (q : Nat) (o2 : List Nat) (j : Nat), j + d = 9 → q < 10 ^ d → o2.length = out.length + j → Dec.Ds o2 → Dec.dv o2 + 10 ^ o2.length * q = Dec.dv out + 10 ^ out.length * m →
  Ev (fun k => nat_Text.l1 k (Dec.cs o2) x4 (q : Int) (j : Int)) r := by
 induction d with
 | zero =>
  intro q o2 j hj hq hlo hd hv
  obtain rfl : q = 0 := by rw [Nat.pow_zero] at hq; omega
  refine Ev.step (f := fun k => nat_Text.l0 k x4 (Dec.cs o2)) (fun k => ?_) (next o2 (by omega) hd (by rw [Nat.mul_zero, Nat.add_zero] at hv; exact hv))
  rw [nat_Text.l1, if_neg (by omega)]
 | succ d ih =>
  intro q o2 j hj hq hlo hd hv
  have hq9 : q < 10 ^ 9 := Nat.lt_of_lt_of_le hq (Nat.pow_le_pow_right (by omega) (by omega))
  have hq10 : q < 1000000000 := hq9
  refine Ev.step (f := fun k => nat_Text.l1 k (Dec.cs (o2 ++ [q % 10])) x4 ((q / 10 : Nat) : Int) ((j + 1 : Nat) : Int)) (fun k => ?_) ?_
  ·have e1 : (IntKind.u64.wrap (48 + ((q % 10 : Nat) : Int))) % 256 = ((48 + q % 10 : Nat) : Int) := by
    rw [show (48 : Int) + ((q % 10 : Nat) : Int) = ((48 + q % 10 : Nat) : Int) from by omega, u64_nat _ (by omega)]
    omega
   rw [nat_Text.l1, if_pos (by omega), if_pos (by rw [Dec.cs_length]; omega), Dec.tmod10, Dec.tdiv10, e1, u64_nat _ (by omega), Dec.cs_snoc, Dec.w64s _ (by omega)]
  ·refine ih (q / 10) _ (j + 1) (by omega) (by rw [Nat.pow_succ] at hq; omega) (by rw [List.length_append, List.length_singleton]; omega) (hd.snoc (Nat.mod_lt _ (by omega))) ?_
   rw [Dec.dv_snoc, List.length_append, List.length_singleton, Nat.pow_succ, ← hv]
   have h3 : 10 ^ o2.length * q = 10 ^ o2.length * (q % 10 + 10 * (q / 10)) := by congr 1; omega
   rw [Nat.mul_add, ← Nat.mul_assoc] at h3
   omega
theorem nat_Text.ev_0 (d : Nat) : ∀ (n : Nat) (out : List Nat), n < 1000000000 ^ d → (Num.nd n).length < 100000000 → out.length + 9 * d < 2000000000 → Dec.Ds out → Ev (fun k => nat_Text.l0 k (Num.nd n) (Dec.cs out)) (Dec.dec (Dec.dv out + 10 ^ out.length * n)) := by
 have stop : ∀ out : List Nat, out.length < 2000000000 → Dec.Ds out → Ev (fun k => nat_Text.l0 k (Num.nd 0) (Dec.cs out)) (Dec.dec (Dec.dv out + 10 ^ out.length * 0)) := by
  intro out hl ho
  rw [Nat.mul_zero, Nat.add_zero, Num.nd_zero]
  refine Ev.step (f := fun k => nat_Text.l2 k (Dec.cs out)) (fun k => ?_) (nat_Text.ev_2 _ rfl (by omega) ho)
  rw [nat_Text.l0, if_neg (by rw [List.length_nil]; omega)]
 induction d with
 | zero =>
  intro n out hn hl ho hd
  obtain rfl : n = 0 := by rw [Nat.pow_zero] at hn; omega
  exact stop out (by omega) hd
 | succ d ih =>
  intro n out hn hl ho hd
  by_cases h0 : n = 0
  ·subst h0
   exact stop out (by omega) hd
  ·have h2 : 0 < (Num.nd n).length := by
    rcases Nat.eq_zero_or_pos (Num.nd n).length with h | h
    ·exact absurd (Num.nd_eq_nil.1 (List.eq_nil_of_length_eq_zero h)) h0
    ·exact h
   obtain ⟨B, hB⟩ : ∃ B : Nat, B = 1000000000 := ⟨_, rfl⟩
   have hBi : (1000000000 : Int) = (B : Int) := by omega
   have hdm : ∀ k, nat_DivMod.f k (Num.nd n) (Num.nd B) = some (Num.nd (n / B), Num.nd (n % B), 0) := by
    intro k
    unfold nat_DivMod.f
    have h9 : (Num.nd B).length ≤ 1 := Num.nd_length_le (k := 1) (by rw [hB]; decide)
    rw [if_pos ((Num.okd_iff _).2 ⟨by omega, Num.Ws_nd _⟩), if_pos ((Num.okd_iff _).2 ⟨by omega, Num.Ws_nd _⟩), Num.nv_nd, Num.nv_nd, if_neg (by omega)]
   have hmod : n % B < 1000000000 := by rw [hB]; exact Nat.mod_lt _ (by omega)
   have hsm : ∀ k, nat_Small.f k (Num.nd (n % B)) = some (((n % B : Nat) : Int), true) := by
    intro k
    unfold nat_Small.f
    have h9 : (Num.nd (n % B)).length ≤ 1 := Num.nd_length_le (k := 1) (Nat.lt_trans hmod (by decide))
    rw [if_pos (Num.okw_of (by omega) (Num.Ws_nd _)), Num.nv_nd, if_pos (by omega)]
   have hof := nat_Of.ev B (by omega)
   refine Ev.step (f := fun k => (nat_Of.f k (B : Int)).bind fun t186 => ((nat_DivMod.f k (Num.nd n) t186).bind fun bt189 => ((nat_Small.f k bt189.2.1).bind fun bt196 => (nat_Text.l1 k (Dec.cs out) bt189.1 bt196.1 0)))) (fun k => ?_) (Ev.bind hof (Ev.bind (Ev.congr hdm (Ev.now _)) (Ev.bind (Ev.congr hsm (Ev.now _)) ?_)))
   ·rw [nat_Text.l0, if_pos (by omega), hBi]
   ·have hdv : (n / B) * B + n % B = n := by rw [Nat.mul_comm]; exact Nat.div_add_mod n B
    refine nat_Text.ev_1 out hd (by omega) (n % B) (fun o2 hl2 hd2 hv2 => ?_) 9 (n % B) out 0 (by omega) hmod rfl hd rfl
    have := ih (n / B) o2 (by rw [Nat.pow_succ] at hn; rw [hB]; exact Nat.div_lt_of_lt_mul (by rw [Nat.mul_comm]; exact hn)) (Nat.lt_of_le_of_lt (Num.nd_len_mono (Nat.div_le_self _ _)) hl) (by omega) hd2
    rw [hv2, hl2, Nat.pow_add, show 10 ^ 9 = B from by rw [hB]] at this
    have e : Dec.dv out + 10 ^ out.length * (n % B) + 10 ^ out.length * B * (n / B) = Dec.dv out + 10 ^ out.length * n := by
     rw [Nat.mul_assoc, Nat.add_assoc, ← Nat.mul_add, Nat.mul_comm B, Nat.add_comm (n % B), hdv]
    rw [e] at this
    exact this
theorem nat_Text.ev {l : List Int} (hW : Num.Ws l) (hl : l.length < 10000000) : Ev (fun k => nat_Text.f k l) (Dec.dec (Num.nv l)) := by
 have hlt := Num.nv_lt hW
 have hp : 2 ^ (32 * l.length) ≤ 1000000000 ^ (2 * l.length) := by
  rw [Nat.pow_mul, Nat.pow_mul]
  exact Nat.pow_le_pow_left (by decide) _
 have := nat_Text.ev_0 (2 * l.length) (Num.nv l) [] (Nat.lt_of_lt_of_le hlt hp) (Nat.lt_of_le_of_lt (Num.nd_length_le hlt) (by omega)) (by rw [List.length_nil]; omega) Dec.Ds.nil
 rw [List.length_nil, Dec.dv, Nat.pow_zero, Nat.one_mul, Nat.zero_add] at this
 unfold nat_Text.f
 exact Ev.bind (nat_trim.ev hW (by omega)) this
/-! ### whole_Text: function 20 -/
def whole_Text.f (k : Nat) (a0_0 : Bool) (l0_1 : List Int) : Option (ByteArray) := (whole_Sign.f k a0_0 l0_1).bind fun t217 => (if t217 < 0 then ((nat_Text.f k l0_1).bind fun t218 => (if 1 + t218.size ≤ 9223372036854775807 then (some ((⟨#[45]⟩ : ByteArray) ++ t218)) else (none))) else ((nat_Text.f k l0_1).bind fun t219 => (some t219)))
set_option maxHeartbeats 8000000 in
set_option maxRecDepth 100000 in
theorem whole_Text.calls (k : Nat) (a0_0 : Bool) (A0_1 : Option Addr) (c0_1 : Nat) (l0_1 : List Int) (r : ByteArray) (w : World) (hr0_1 : Kd.C (Kd.int .u32) w A0_1 l0_1.length l0_1) (hc0_1 : l0_1.length ≤ c0_1) (h : whole_Text.f k a0_0 l0_1 = some r) :
  Calls Try.prog 20 #[.agg #[.bool a0_0, .slice A0_1 l0_1.length c0_1]] w fun e w' => e = .returned (.string r) ∧ Below w.heap.size w w' := by
 have hu25 := Try.underlying25
 have HR0_1 := Aside0.mk hr0_1
 have HC0_1 := Aside0.mk hc0_1
 clear hr0_1 hc0_1
 have HB := Aside0.mk (Below.refl w.heap.size w)
 have H : ((whole_Sign.f k a0_0 l0_1).bind fun t217 => (if t217 < 0 then ((nat_Text.f k l0_1).bind fun t218 => (if 1 + t218.size ≤ 9223372036854775807 then (some ((⟨#[45]⟩ : ByteArray) ++ t218)) else (none))) else ((nat_Text.f k l0_1).bind fun t219 => (some t219)))) = some r := h
 clear h
 replace H := Option.bind_eq_some_iff.mp H
 obtain ⟨t217, A20, H⟩ := H
 try dsimp only at H
 have A2 := Aside0.mk A20
 clear A20
 by_cases c3 : t217 < 0
 ·rw [if_pos c3] at H
  have c3b0 : decide (t217 < 0) = true := decide_eq_true c3
  clear c3
  replace H := Option.bind_eq_some_iff.mp H
  obtain ⟨t218, A40, H⟩ := H
  try dsimp only at H
  have A4 := Aside0.mk A40
  clear A40
  by_cases c5 : 1 + t218.size ≤ 9223372036854775807
  ·rw [if_pos c5] at H
   have c5b0 := eq_true c5
   have c5b1 : decide (1 + t218.size ≤ 9223372036854775807) = true := decide_eq_true c5
   try have c5b2 : (9223372036854775807 < 1 + t218.size) = False := eq_false (Nat.not_lt.2 c5)
   obtain rfl := Option.some.inj H
   go_enter Try.func20, Try.ntmps20
   go_wp2_with (first | ((with_reducible refine gate_dst (N := 1) rfl ?_); refine Short.boxS_ (N := 1) (cs := #[.bool a0_0, .slice A0_1 l0_1.length c0_1]) (t := 25) ?_; intro gb216 hg w6 hbox hb; have BK216 := Aside0.mk (hbox); have GW216 := Aside0.mk ((by rw [hg]; exact (below_size (by repeat (first | (with_reducible first | exact HB.out | apply below_alloc | apply pw_below_drewN | apply below_drew1) | exact HB.out))) : w.heap.size ≤ gb216)); have GE216 := Aside0.mk ((by rw [hg]; exact (below_size (by repeat (first | (with_reducible first | exact HB.out | apply below_alloc | apply pw_below_drewN | apply below_drew1) | exact HB.out))) : w.heap.size ≤ gb216)); replace HB := Aside0.mk (below_step (by repeat (first | (with_reducible first | exact HB.out | apply below_alloc | apply pw_below_drewN | apply below_drew1) | exact HB.out)) hb); clear hb hbox hg; have hcz7_0 : w6.cell? ⟨gb216, 0, none⟩ = some (.bool a0_0) := (blk_cell BK216.out 0).trans rfl; have hcz7_1 : w6.cell? ⟨gb216, 1, none⟩ = some (.slice A0_1 l0_1.length c0_1) := (blk_cell BK216.out 1).trans rfl; have hfz7_0 := blk_frozen BK216.out 0; have hfz7_1 := blk_frozen BK216.out 1) | ((with_reducible refine gate_callee (f := 49) rfl ?_); refine Short.goesS_ (some 4) Try.func49 #[.agg #[.bool a0_0, .slice A0_1 l0_1.length c0_1]] ?_; (with_reducible refine (whole_Sign.calls k a0_0 _ _ l0_1 t217 _ (Kd.C_below HR0_1.out HB.out) HC0_1.out A2.out).mono ?_); rintro e w8 ⟨rfl, hb⟩; refine ⟨_, rfl, ?_⟩; replace BK216 := Aside0.mk (blk_below BK216.out hb); replace HB := Aside0.mk (below_step HB.out hb); (try clear hb); have hcz9_0 : w8.cell? ⟨gb216, 0, none⟩ = some (.bool a0_0) := (blk_cell BK216.out 0).trans rfl; have hcz9_1 : w8.cell? ⟨gb216, 1, none⟩ = some (.slice A0_1 l0_1.length c0_1) := (blk_cell BK216.out 1).trans rfl; have hfz9_0 := blk_frozen BK216.out 0; have hfz9_1 := blk_frozen BK216.out 1) | ((with_reducible refine gate_callee (f := 59) rfl ?_); refine Short.goesS_ (some 8) Try.func59 #[.slice A0_1 l0_1.length c0_1] ?_; (with_reducible refine (nat_Text.calls k _ _ l0_1 t218 _ (Kd.C_below HR0_1.out HB.out) HC0_1.out A4.out).mono ?_); rintro e w10 ⟨rfl, hb⟩; refine ⟨_, rfl, ?_⟩; replace BK216 := Aside0.mk (blk_below BK216.out hb); replace HB := Aside0.mk (below_step HB.out hb); (try clear hb)))
   go_ret
   exact ⟨by rfl, by repeat (first | (with_reducible first | exact HB.out | apply below_alloc | apply pw_below_drewN | apply below_drew1 | refine below_set ?_ GE216.out) | exact HB.out)⟩
  ·rw [if_neg c5] at H
   exact absurd H (by simp)
 ·rw [if_neg c3] at H
  have c3b0 : decide (t217 < 0) = false := decide_eq_false c3
  clear c3
  replace H := Option.bind_eq_some_iff.mp H
  obtain ⟨t219, A110, H⟩ := H
  replace H : (some t219) = some r := H
  have A11 := Aside0.mk A110
  clear A110
  obtain rfl := Option.some.inj H
  go_enter Try.func20, Try.ntmps20
  go_wp2_with (first | ((with_reducible refine gate_dst (N := 1) rfl ?_); refine Short.boxS_ (N := 1) (cs := #[.bool a0_0, .slice A0_1 l0_1.length c0_1]) (t := 25) ?_; intro gb216 hg w12 hbox hb; have BK216 := Aside0.mk (hbox); have GW216 := Aside0.mk ((by rw [hg]; exact (below_size (by repeat (first | (with_reducible first | exact HB.out | apply below_alloc | apply pw_below_drewN | apply below_drew1) | exact HB.out))) : w.heap.size ≤ gb216)); have GE216 := Aside0.mk ((by rw [hg]; exact (below_size (by repeat (first | (with_reducible first | exact HB.out | apply below_alloc | apply pw_below_drewN | apply below_drew1) | exact HB.out))) : w.heap.size ≤ gb216)); replace HB := Aside0.mk (below_step (by repeat (first | (with_reducible first | exact HB.out | apply below_alloc | apply pw_below_drewN | apply below_drew1) | exact HB.out)) hb); clear hb hbox hg; have hcz13_0 : w12.cell? ⟨gb216, 0, none⟩ = some (.bool a0_0) := (blk_cell BK216.out 0).trans rfl; have hcz13_1 : w12.cell? ⟨gb216, 1, none⟩ = some (.slice A0_1 l0_1.length c0_1) := (blk_cell BK216.out 1).trans rfl; have hfz13_0 := blk_frozen BK216.out 0; have hfz13_1 := blk_frozen BK216.out 1) | ((with_reducible refine gate_callee (f := 49) rfl ?_); refine Short.goesS_ (some 4) Try.func49 #[.agg #[.bool a0_0, .slice A0_1 l0_1.length c0_1]] ?_; (with_reducible refine (whole_Sign.calls k a0_0 _ _ l0_1 t217 _ (Kd.C_below HR0_1.out HB.out) HC0_1.out A2.out).mono ?_); rintro e w14 ⟨rfl, hb⟩; refine ⟨_, rfl, ?_⟩; replace BK216 := Aside0.mk (blk_below BK216.out hb); replace HB := Aside0.mk (below_step HB.out hb); (try clear hb); have hcz15_0 : w14.cell? ⟨gb216, 0, none⟩ = some (.bool a0_0) := (blk_cell BK216.out 0).trans rfl; have hcz15_1 : w14.cell? ⟨gb216, 1, none⟩ = some (.slice A0_1 l0_1.length c0_1) := (blk_cell BK216.out 1).trans rfl; have hfz15_0 := blk_frozen BK216.out 0; have hfz15_1 := blk_frozen BK216.out 1) | ((with_reducible refine gate_callee (f := 59) rfl ?_); refine Short.goesS_ (some 12) Try.func59 #[.slice A0_1 l0_1.length c0_1] ?_; (with_reducible refine (nat_Text.calls k _ _ l0_1 t219 _ (Kd.C_below HR0_1.out HB.out) HC0_1.out A11.out).mono ?_); rintro e w16 ⟨rfl, hb⟩; refine ⟨_, rfl, ?_⟩; replace BK216 := Aside0.mk (blk_below BK216.out hb); replace HB := Aside0.mk (below_step HB.out hb); (try clear hb)))
  go_ret
  exact ⟨by rfl, by repeat (first | (with_reducible first | exact HB.out | apply below_alloc | apply pw_below_drewN | apply below_drew1 | refine below_set ?_ GE216.out) | exact HB.out)⟩

theorem whole_Text.ev {m : Bool} {l : List Int} {z : Int} {K : Nat} (h : Zn.Is m l z K) (hK : K < 1000000) : Ev (fun k => whole_Text.f k m l) (Zn.tz z) := by
 have hl := h.len
 have T := nat_Text.ev h.ws (by omega)
 rw [← h.abs] at T
 unfold whole_Text.f
 refine Ev.bind (whole_Sign.ev h hK) ?_
 by_cases hz : z < 0
 ·rw [Zn.tz_neg hz]
  refine Dec.yes ((Zn.sign_lt z).2 hz) (Ev.bind T (Dec.yes ?_ (Ev.now _)))
  have := Dec.dc_len32 (n := z.natAbs) (k := K + 1) (by omega) (Num.le_pow h.lt (by omega))
  rw [Zn.dec_size]
  omega
 ·rw [Zn.tz_pos hz]
  exact Dec.no (fun e => hz ((Zn.sign_lt z).1 e)) (Ev.bind T (Ev.now _))
/-! ### bits_Len32: function 76 -/
def bits_Len32.f (a0 : Int) : Option (Int) := if a0 ≥ 65536 then (if (a0 / 65536) ≥ 256 then (if 0 ≤ (((a0 / 65536) / 256) % 256) then (if (((a0 / 65536) / 256) % 256) < 256 then (some (wrap64 ((16 + 8) + (wrap64 (bt (⟨#[0, 1, 2, 2, 3, 3, 3, 3, 4, 4, 4, 4, 4, 4, 4, 4, 5, 5, 5, 5, 5, 5, 5, 5, 5, 5, 5, 5, 5, 5, 5, 5, 6, 6, 6, 6, 6, 6, 6, 6, 6, 6, 6, 6, 6, 6, 6, 6, 6, 6, 6, 6, 6, 6, 6, 6, 6, 6, 6, 6, 6, 6, 6, 6, 7, 7, 7, 7, 7, 7, 7, 7, 7, 7, 7, 7, 7, 7, 7, 7, 7, 7, 7, 7, 7, 7, 7, 7, 7, 7, 7, 7, 7, 7, 7, 7, 7, 7, 7, 7, 7, 7, 7, 7, 7, 7, 7, 7, 7, 7, 7, 7, 7, 7, 7, 7, 7, 7, 7, 7, 7, 7, 7, 7, 7, 7, 7, 7, 8, 8, 8, 8, 8, 8, 8, 8, 8, 8, 8, 8, 8, 8, 8, 8, 8, 8, 8, 8, 8, 8, 8, 8, 8, 8, 8, 8, 8, 8, 8, 8, 8, 8, 8, 8, 8, 8, 8, 8, 8, 8, 8, 8, 8, 8, 8, 8, 8, 8, 8, 8, 8, 8, 8, 8, 8, 8, 8, 8, 8, 8, 8, 8, 8, 8, 8, 8, 8, 8, 8, 8, 8, 8, 8, 8, 8, 8, 8, 8, 8, 8, 8, 8, 8, 8, 8, 8, 8, 8, 8, 8, 8, 8, 8, 8, 8, 8, 8, 8, 8, 8, 8, 8, 8, 8, 8, 8, 8, 8, 8, 8, 8, 8, 8, 8, 8, 8, 8, 8, 8, 8, 8, 8, 8, 8, 8, 8]⟩ : ByteArray) (((a0 / 65536) / 256) % 256)))))) else (none)) else (none)) else (if 0 ≤ ((a0 / 65536) % 256) then (if ((a0 / 65536) % 256) < 256 then (some (wrap64 (16 + (wrap64 (bt (⟨#[0, 1, 2, 2, 3, 3, 3, 3, 4, 4, 4, 4, 4, 4, 4, 4, 5, 5, 5, 5, 5, 5, 5, 5, 5, 5, 5, 5, 5, 5, 5, 5, 6, 6, 6, 6, 6, 6, 6, 6, 6, 6, 6, 6, 6, 6, 6, 6, 6, 6, 6, 6, 6, 6, 6, 6, 6, 6, 6, 6, 6, 6, 6, 6, 7, 7, 7, 7, 7, 7, 7, 7, 7, 7, 7, 7, 7, 7, 7, 7, 7, 7, 7, 7, 7, 7, 7, 7, 7, 7, 7, 7, 7, 7, 7, 7, 7, 7, 7, 7, 7, 7, 7, 7, 7, 7, 7, 7, 7, 7, 7, 7, 7, 7, 7, 7, 7, 7, 7, 7, 7, 7, 7, 7, 7, 7, 7, 7, 8, 8, 8, 8, 8, 8, 8, 8, 8, 8, 8, 8, 8, 8, 8, 8, 8, 8, 8, 8, 8, 8, 8, 8, 8, 8, 8, 8, 8, 8, 8, 8, 8, 8, 8, 8, 8, 8, 8, 8, 8, 8, 8, 8, 8, 8, 8, 8, 8, 8, 8, 8, 8, 8, 8, 8, 8, 8, 8, 8, 8, 8, 8, 8, 8, 8, 8, 8, 8, 8, 8, 8, 8, 8, 8, 8, 8, 8, 8, 8, 8, 8, 8, 8, 8, 8, 8, 8, 8, 8, 8, 8, 8, 8, 8, 8, 8, 8, 8, 8, 8, 8, 8, 8, 8, 8, 8, 8, 8, 8, 8, 8, 8, 8, 8, 8, 8, 8, 8, 8, 8, 8, 8, 8, 8, 8, 8, 8]⟩ : ByteArray) ((a0 / 65536) % 256)))))) else (none)) else (none))) else (if a0 ≥ 256 then (if 0 ≤ ((a0 / 256) % 256) then (if ((a0 / 256) % 256) < 256 then (some (wrap64 ((0 + 8) + (wrap64 (bt (⟨#[0, 1, 2, 2, 3, 3, 3, 3, 4, 4, 4, 4, 4, 4, 4, 4, 5, 5, 5, 5, 5, 5, 5, 5, 5, 5, 5, 5, 5, 5, 5, 5, 6, 6, 6, 6, 6, 6, 6, 6, 6, 6, 6, 6, 6, 6, 6, 6, 6, 6, 6, 6, 6, 6, 6, 6, 6, 6, 6, 6, 6, 6, 6, 6, 7, 7, 7, 7, 7, 7, 7, 7, 7, 7, 7, 7, 7, 7, 7, 7, 7, 7, 7, 7, 7, 7, 7, 7, 7, 7, 7, 7, 7, 7, 7, 7, 7, 7, 7, 7, 7, 7, 7, 7, 7, 7, 7, 7, 7, 7, 7, 7, 7, 7, 7, 7, 7, 7, 7, 7, 7, 7, 7, 7, 7, 7, 7, 7, 8, 8, 8, 8, 8, 8, 8, 8, 8, 8, 8, 8, 8, 8, 8, 8, 8, 8, 8, 8, 8, 8, 8, 8, 8, 8, 8, 8, 8, 8, 8, 8, 8, 8, 8, 8, 8, 8, 8, 8, 8, 8, 8, 8, 8, 8, 8, 8, 8, 8, 8, 8, 8, 8, 8, 8, 8, 8, 8, 8, 8, 8, 8, 8, 8, 8, 8, 8, 8, 8, 8, 8, 8, 8, 8, 8, 8, 8, 8, 8, 8, 8, 8, 8, 8, 8, 8, 8, 8, 8, 8, 8, 8, 8, 8, 8, 8, 8, 8, 8, 8, 8, 8, 8, 8, 8, 8, 8, 8, 8, 8, 8, 8, 8, 8, 8, 8, 8, 8, 8, 8, 8, 8, 8, 8, 8, 8, 8]⟩ : ByteArray) ((a0 / 256) % 256)))))) else (none)) else (none)) else (if 0 ≤ ((a0) % 256) then (if ((a0) % 256) < 256 then (some (wrap64 (0 + (wrap64 (bt (⟨#[0, 1, 2, 2, 3, 3, 3, 3, 4, 4, 4, 4, 4, 4, 4, 4, 5, 5, 5, 5, 5, 5, 5, 5, 5, 5, 5, 5, 5, 5, 5, 5, 6, 6, 6, 6, 6, 6, 6, 6, 6, 6, 6, 6, 6, 6, 6, 6, 6, 6, 6, 6, 6, 6, 6, 6, 6, 6, 6, 6, 6, 6, 6, 6, 7, 7, 7, 7, 7, 7, 7, 7, 7, 7, 7, 7, 7, 7, 7, 7, 7, 7, 7, 7, 7, 7, 7, 7, 7, 7, 7, 7, 7, 7, 7, 7, 7, 7, 7, 7, 7, 7, 7, 7, 7, 7, 7, 7, 7, 7, 7, 7, 7, 7, 7, 7, 7, 7, 7, 7, 7, 7, 7, 7, 7, 7, 7, 7, 8, 8, 8, 8, 8, 8, 8, 8, 8, 8, 8, 8, 8, 8, 8, 8, 8, 8, 8, 8, 8, 8, 8, 8, 8, 8, 8, 8, 8, 8, 8, 8, 8, 8, 8, 8, 8, 8, 8, 8, 8, 8, 8, 8, 8, 8, 8, 8, 8, 8, 8, 8, 8, 8, 8, 8, 8, 8, 8, 8, 8, 8, 8, 8, 8, 8, 8, 8, 8, 8, 8, 8, 8, 8, 8, 8, 8, 8, 8, 8, 8, 8, 8, 8, 8, 8, 8, 8, 8, 8, 8, 8, 8, 8, 8, 8, 8, 8, 8, 8, 8, 8, 8, 8, 8, 8, 8, 8, 8, 8, 8, 8, 8, 8, 8, 8, 8, 8, 8, 8, 8, 8, 8, 8, 8, 8, 8, 8]⟩ : ByteArray) ((a0) % 256)))))) else (none)) else (none)))
set_option maxHeartbeats 8000000 in
set_option maxRecDepth 100000 in
theorem bits_Len32.calls (a0 : Int) (r : Int) (w : World) (h : bits_Len32.f a0 = some r) :
  Calls Try.prog 76 #[.int .u32 a0] w fun e w' => e = .returned (.int .i64 r) ∧ Drawn0 w w' := by
 have H : (if a0 ≥ 65536 then (if (a0 / 65536) ≥ 256 then (if 0 ≤ (((a0 / 65536) / 256) % 256) then (if (((a0 / 65536) / 256) % 256) < 256 then (some (wrap64 ((16 + 8) + (wrap64 (bt (⟨#[0, 1, 2, 2, 3, 3, 3, 3, 4, 4, 4, 4, 4, 4, 4, 4, 5, 5, 5, 5, 5, 5, 5, 5, 5, 5, 5, 5, 5, 5, 5, 5, 6, 6, 6, 6, 6, 6, 6, 6, 6, 6, 6, 6, 6, 6, 6, 6, 6, 6, 6, 6, 6, 6, 6, 6, 6, 6, 6, 6, 6, 6, 6, 6, 7, 7, 7, 7, 7, 7, 7, 7, 7, 7, 7, 7, 7, 7, 7, 7, 7, 7, 7, 7, 7, 7, 7, 7, 7, 7, 7, 7, 7, 7, 7, 7, 7, 7, 7, 7, 7, 7, 7, 7, 7, 7, 7, 7, 7, 7, 7, 7, 7, 7, 7, 7, 7, 7, 7, 7, 7, 7, 7, 7, 7, 7, 7, 7, 8, 8, 8, 8, 8, 8, 8, 8, 8, 8, 8, 8, 8, 8, 8, 8, 8, 8, 8, 8, 8, 8, 8, 8, 8, 8, 8, 8, 8, 8, 8, 8, 8, 8, 8, 8, 8, 8, 8, 8, 8, 8, 8, 8, 8, 8, 8, 8, 8, 8, 8, 8, 8, 8, 8, 8, 8, 8, 8, 8, 8, 8, 8, 8, 8, 8, 8, 8, 8, 8, 8, 8, 8, 8, 8, 8, 8, 8, 8, 8, 8, 8, 8, 8, 8, 8, 8, 8, 8, 8, 8, 8, 8, 8, 8, 8, 8, 8, 8, 8, 8, 8, 8, 8, 8, 8, 8, 8, 8, 8, 8, 8, 8, 8, 8, 8, 8, 8, 8, 8, 8, 8, 8, 8, 8, 8, 8, 8]⟩ : ByteArray) (((a0 / 65536) / 256) % 256)))))) else (none)) else (none)) else (if 0 ≤ ((a0 / 65536) % 256) then (if ((a0 / 65536) % 256) < 256 then (some (wrap64 (16 + (wrap64 (bt (⟨#[0, 1, 2, 2, 3, 3, 3, 3, 4, 4, 4, 4, 4, 4, 4, 4, 5, 5, 5, 5, 5, 5, 5, 5, 5, 5, 5, 5, 5, 5, 5, 5, 6, 6, 6, 6, 6, 6, 6, 6, 6, 6, 6, 6, 6, 6, 6, 6, 6, 6, 6, 6, 6, 6, 6, 6, 6, 6, 6, 6, 6, 6, 6, 6, 7, 7, 7, 7, 7, 7, 7, 7, 7, 7, 7, 7, 7, 7, 7, 7, 7, 7, 7, 7, 7, 7, 7, 7, 7, 7, 7, 7, 7, 7, 7, 7, 7, 7, 7, 7, 7, 7, 7, 7, 7, 7, 7, 7, 7, 7, 7, 7, 7, 7, 7, 7, 7, 7, 7, 7, 7, 7, 7, 7, 7, 7, 7, 7, 8, 8, 8, 8, 8, 8, 8, 8, 8, 8, 8, 8, 8, 8, 8, 8, 8, 8, 8, 8, 8, 8, 8, 8, 8, 8, 8, 8, 8, 8, 8, 8, 8, 8, 8, 8, 8, 8, 8, 8, 8, 8, 8, 8, 8, 8, 8, 8, 8, 8, 8, 8, 8, 8, 8, 8, 8, 8, 8, 8, 8, 8, 8, 8, 8, 8, 8, 8, 8, 8, 8, 8, 8, 8, 8, 8, 8, 8, 8, 8, 8, 8, 8, 8, 8, 8, 8, 8, 8, 8, 8, 8, 8, 8, 8, 8, 8, 8, 8, 8, 8, 8, 8, 8, 8, 8, 8, 8, 8, 8, 8, 8, 8, 8, 8, 8, 8, 8, 8, 8, 8, 8, 8, 8, 8, 8, 8, 8]⟩ : ByteArray) ((a0 / 65536) % 256)))))) else (none)) else (none))) else (if a0 ≥ 256 then (if 0 ≤ ((a0 / 256) % 256) then (if ((a0 / 256) % 256) < 256 then (some (wrap64 ((0 + 8) + (wrap64 (bt (⟨#[0, 1, 2, 2, 3, 3, 3, 3, 4, 4, 4, 4, 4, 4, 4, 4, 5, 5, 5, 5, 5, 5, 5, 5, 5, 5, 5, 5, 5, 5, 5, 5, 6, 6, 6, 6, 6, 6, 6, 6, 6, 6, 6, 6, 6, 6, 6, 6, 6, 6, 6, 6, 6, 6, 6, 6, 6, 6, 6, 6, 6, 6, 6, 6, 7, 7, 7, 7, 7, 7, 7, 7, 7, 7, 7, 7, 7, 7, 7, 7, 7, 7, 7, 7, 7, 7, 7, 7, 7, 7, 7, 7, 7, 7, 7, 7, 7, 7, 7, 7, 7, 7, 7, 7, 7, 7, 7, 7, 7, 7, 7, 7, 7, 7, 7, 7, 7, 7, 7, 7, 7, 7, 7, 7, 7, 7, 7, 7, 8, 8, 8, 8, 8, 8, 8, 8, 8, 8, 8, 8, 8, 8, 8, 8, 8, 8, 8, 8, 8, 8, 8, 8, 8, 8, 8, 8, 8, 8, 8, 8, 8, 8, 8, 8, 8, 8, 8, 8, 8, 8, 8, 8, 8, 8, 8, 8, 8, 8, 8, 8, 8, 8, 8, 8, 8, 8, 8, 8, 8, 8, 8, 8, 8, 8, 8, 8, 8, 8, 8, 8, 8, 8, 8, 8, 8, 8, 8, 8, 8, 8, 8, 8, 8, 8, 8, 8, 8, 8, 8, 8, 8, 8, 8, 8, 8, 8, 8, 8, 8, 8, 8, 8, 8, 8, 8, 8, 8, 8, 8, 8, 8, 8, 8, 8, 8, 8, 8, 8, 8, 8, 8, 8, 8, 8, 8, 8]⟩ : ByteArray) ((a0 / 256) % 256)))))) else (none)) else (none)) else (if 0 ≤ ((a0) % 256) then (if ((a0) % 256) < 256 then (some (wrap64 (0 + (wrap64 (bt (⟨#[0, 1, 2, 2, 3, 3, 3, 3, 4, 4, 4, 4, 4, 4, 4, 4, 5, 5, 5, 5, 5, 5, 5, 5, 5, 5, 5, 5, 5, 5, 5, 5, 6, 6, 6, 6, 6, 6, 6, 6, 6, 6, 6, 6, 6, 6, 6, 6, 6, 6, 6, 6, 6, 6, 6, 6, 6, 6, 6, 6, 6, 6, 6, 6, 7, 7, 7, 7, 7, 7, 7, 7, 7, 7, 7, 7, 7, 7, 7, 7, 7, 7, 7, 7, 7, 7, 7, 7, 7, 7, 7, 7, 7, 7, 7, 7, 7, 7, 7, 7, 7, 7, 7, 7, 7, 7, 7, 7, 7, 7, 7, 7, 7, 7, 7, 7, 7, 7, 7, 7, 7, 7, 7, 7, 7, 7, 7, 7, 8, 8, 8, 8, 8, 8, 8, 8, 8, 8, 8, 8, 8, 8, 8, 8, 8, 8, 8, 8, 8, 8, 8, 8, 8, 8, 8, 8, 8, 8, 8, 8, 8, 8, 8, 8, 8, 8, 8, 8, 8, 8, 8, 8, 8, 8, 8, 8, 8, 8, 8, 8, 8, 8, 8, 8, 8, 8, 8, 8, 8, 8, 8, 8, 8, 8, 8, 8, 8, 8, 8, 8, 8, 8, 8, 8, 8, 8, 8, 8, 8, 8, 8, 8, 8, 8, 8, 8, 8, 8, 8, 8, 8, 8, 8, 8, 8, 8, 8, 8, 8, 8, 8, 8, 8, 8, 8, 8, 8, 8, 8, 8, 8, 8, 8, 8, 8, 8, 8, 8, 8, 8, 8, 8, 8, 8, 8, 8]⟩ : ByteArray) ((a0) % 256)))))) else (none)) else (none)))) = some r := h
 clear h
 by_cases c2 : a0 ≥ 65536
 ·rw [if_pos c2] at H
  have c2b0 : decide (65536 ≤ a0) = true := decide_eq_true c2
  clear c2
  by_cases c3 : (a0 / 65536) ≥ 256
  ·rw [if_pos c3] at H
   have c3b0 : decide (256 ≤ (a0 / 65536)) = true := decide_eq_true c3
   clear c3
   obtain ⟨ji4, hji4⟩ : ∃ j_ : Int, (((a0 / 65536) / 256) % 256) = j_ := ⟨_, rfl⟩
   replace H : (if 0 ≤ (ji4) then (if (ji4) < 256 then (some (wrap64 ((16 + 8) + (wrap64 (bt (⟨#[0, 1, 2, 2, 3, 3, 3, 3, 4, 4, 4, 4, 4, 4, 4, 4, 5, 5, 5, 5, 5, 5, 5, 5, 5, 5, 5, 5, 5, 5, 5, 5, 6, 6, 6, 6, 6, 6, 6, 6, 6, 6, 6, 6, 6, 6, 6, 6, 6, 6, 6, 6, 6, 6, 6, 6, 6, 6, 6, 6, 6, 6, 6, 6, 7, 7, 7, 7, 7, 7, 7, 7, 7, 7, 7, 7, 7, 7, 7, 7, 7, 7, 7, 7, 7, 7, 7, 7, 7, 7, 7, 7, 7, 7, 7, 7, 7, 7, 7, 7, 7, 7, 7, 7, 7, 7, 7, 7, 7, 7, 7, 7, 7, 7, 7, 7, 7, 7, 7, 7, 7, 7, 7, 7, 7, 7, 7, 7, 8, 8, 8, 8, 8, 8, 8, 8, 8, 8, 8, 8, 8, 8, 8, 8, 8, 8, 8, 8, 8, 8, 8, 8, 8, 8, 8, 8, 8, 8, 8, 8, 8, 8, 8, 8, 8, 8, 8, 8, 8, 8, 8, 8, 8, 8, 8, 8, 8, 8, 8, 8, 8, 8, 8, 8, 8, 8, 8, 8, 8, 8, 8, 8, 8, 8, 8, 8, 8, 8, 8, 8, 8, 8, 8, 8, 8, 8, 8, 8, 8, 8, 8, 8, 8, 8, 8, 8, 8, 8, 8, 8, 8, 8, 8, 8, 8, 8, 8, 8, 8, 8, 8, 8, 8, 8, 8, 8, 8, 8, 8, 8, 8, 8, 8, 8, 8, 8, 8, 8, 8, 8, 8, 8, 8, 8, 8, 8]⟩ : ByteArray) (ji4)))))) else (none)) else (none)) = some r := by first | (rw [hji4] at H; exact H) | (simp only [hji4] at H ⊢; exact H)
   by_cases c5 : 0 ≤ (ji4)
   ·rw [if_pos c5] at H
    have c5b0 : decide (0 ≤ (ji4)) = true := decide_eq_true c5
    clear c5
    by_cases c6 : (ji4) < 256
    ·rw [if_pos c6] at H
     have c6b0 : decide ((ji4) < 256) = true := decide_eq_true c6
     clear c6
     obtain rfl := Option.some.inj H
     have p7 : 0 ≤ ((ji4) : Int) := of_decide_eq_true (by first | (with_reducible assumption) | assumption)
     have q7 : (ji4) < (256 : Int) := of_decide_eq_true (by first | (with_reducible assumption) | assumption)
     have hx7 := bt_at (⟨#[0, 1, 2, 2, 3, 3, 3, 3, 4, 4, 4, 4, 4, 4, 4, 4, 5, 5, 5, 5, 5, 5, 5, 5, 5, 5, 5, 5, 5, 5, 5, 5, 6, 6, 6, 6, 6, 6, 6, 6, 6, 6, 6, 6, 6, 6, 6, 6, 6, 6, 6, 6, 6, 6, 6, 6, 6, 6, 6, 6, 6, 6, 6, 6, 7, 7, 7, 7, 7, 7, 7, 7, 7, 7, 7, 7, 7, 7, 7, 7, 7, 7, 7, 7, 7, 7, 7, 7, 7, 7, 7, 7, 7, 7, 7, 7, 7, 7, 7, 7, 7, 7, 7, 7, 7, 7, 7, 7, 7, 7, 7, 7, 7, 7, 7, 7, 7, 7, 7, 7, 7, 7, 7, 7, 7, 7, 7, 7, 8, 8, 8, 8, 8, 8, 8, 8, 8, 8, 8, 8, 8, 8, 8, 8, 8, 8, 8, 8, 8, 8, 8, 8, 8, 8, 8, 8, 8, 8, 8, 8, 8, 8, 8, 8, 8, 8, 8, 8, 8, 8, 8, 8, 8, 8, 8, 8, 8, 8, 8, 8, 8, 8, 8, 8, 8, 8, 8, 8, 8, 8, 8, 8, 8, 8, 8, 8, 8, 8, 8, 8, 8, 8, 8, 8, 8, 8, 8, 8, 8, 8, 8, 8, 8, 8, 8, 8, 8, 8, 8, 8, 8, 8, 8, 8, 8, 8, 8, 8, 8, 8, 8, 8, 8, 8, 8, 8, 8, 8, 8, 8, 8, 8, 8, 8, 8, 8, 8, 8, 8, 8, 8, 8, 8, 8, 8, 8]⟩ : ByteArray) (ji4)
     replace p7 := eq_true p7
     replace q7 := eq_true q7
     go_enter Try.func76, Try.ntmps76
     go_wp2
     go_ret
     exact ⟨by first | rfl | (simp; done) | (simp only [← hji4] <;> (first | rfl | simp)) | (simp [*]; done), by repeat (first | exact Drawn0.refl _ | apply Drawn0.step)⟩
    ·rw [if_neg c6] at H
     exact absurd H (by simp)
   ·rw [if_neg c5] at H
    exact absurd H (by simp)
  ·rw [if_neg c3] at H
   have c3b0 : decide (256 ≤ (a0 / 65536)) = false := decide_eq_false c3
   clear c3
   obtain ⟨ji8, hji8⟩ : ∃ j_ : Int, ((a0 / 65536) % 256) = j_ := ⟨_, rfl⟩
   replace H : (if 0 ≤ (ji8) then (if (ji8) < 256 then (some (wrap64 (16 + (wrap64 (bt (⟨#[0, 1, 2, 2, 3, 3, 3, 3, 4, 4, 4, 4, 4, 4, 4, 4, 5, 5, 5, 5, 5, 5, 5, 5, 5, 5, 5, 5, 5, 5, 5, 5, 6, 6, 6, 6, 6, 6, 6, 6, 6, 6, 6, 6, 6, 6, 6, 6, 6, 6, 6, 6, 6, 6, 6, 6, 6, 6, 6, 6, 6, 6, 6, 6, 7, 7, 7, 7, 7, 7, 7, 7, 7, 7, 7, 7, 7, 7, 7, 7, 7, 7, 7, 7, 7, 7, 7, 7, 7, 7, 7, 7, 7, 7, 7, 7, 7, 7, 7, 7, 7, 7, 7, 7, 7, 7, 7, 7, 7, 7, 7, 7, 7, 7, 7, 7, 7, 7, 7, 7, 7, 7, 7, 7, 7, 7, 7, 7, 8, 8, 8, 8, 8, 8, 8, 8, 8, 8, 8, 8, 8, 8, 8, 8, 8, 8, 8, 8, 8, 8, 8, 8, 8, 8, 8, 8, 8, 8, 8, 8, 8, 8, 8, 8, 8, 8, 8, 8, 8, 8, 8, 8, 8, 8, 8, 8, 8, 8, 8, 8, 8, 8, 8, 8, 8, 8, 8, 8, 8, 8, 8, 8, 8, 8, 8, 8, 8, 8, 8, 8, 8, 8, 8, 8, 8, 8, 8, 8, 8, 8, 8, 8, 8, 8, 8, 8, 8, 8, 8, 8, 8, 8, 8, 8, 8, 8, 8, 8, 8, 8, 8, 8, 8, 8, 8, 8, 8, 8, 8, 8, 8, 8, 8, 8, 8, 8, 8, 8, 8, 8, 8, 8, 8, 8, 8, 8]⟩ : ByteArray) (ji8)))))) else (none)) else (none)) = some r := by first | (rw [hji8] at H; exact H) | (simp only [hji8] at H ⊢; exact H)
   by_cases c9 : 0 ≤ (ji8)
   ·rw [if_pos c9] at H
    have c9b0 : decide (0 ≤ (ji8)) = true := decide_eq_true c9
    clear c9
    by_cases c10 : (ji8) < 256
    ·rw [if_pos c10] at H
     have c10b0 : decide ((ji8) < 256) = true := decide_eq_true c10
     clear c10
     obtain rfl := Option.some.inj H
     have p11 : 0 ≤ ((ji8) : Int) := of_decide_eq_true (by first | (with_reducible assumption) | assumption)
     have q11 : (ji8) < (256 : Int) := of_decide_eq_true (by first | (with_reducible assumption) | assumption)
     have hx11 := bt_at (⟨#[0, 1, 2, 2, 3, 3, 3, 3, 4, 4, 4, 4, 4, 4, 4, 4, 5, 5, 5, 5, 5, 5, 5, 5, 5, 5, 5, 5, 5, 5, 5, 5, 6, 6, 6, 6, 6, 6, 6, 6, 6, 6, 6, 6, 6, 6, 6, 6, 6, 6, 6, 6, 6, 6, 6, 6, 6, 6, 6, 6, 6, 6, 6, 6, 7, 7, 7, 7, 7, 7, 7, 7, 7, 7, 7, 7, 7, 7, 7, 7, 7, 7, 7, 7, 7, 7, 7, 7, 7, 7, 7, 7, 7, 7, 7, 7, 7, 7, 7, 7, 7, 7, 7, 7, 7, 7, 7, 7, 7, 7, 7, 7, 7, 7, 7, 7, 7, 7, 7, 7, 7, 7, 7, 7, 7, 7, 7, 7, 8, 8, 8, 8, 8, 8, 8, 8, 8, 8, 8, 8, 8, 8, 8, 8, 8, 8, 8, 8, 8, 8, 8, 8, 8, 8, 8, 8, 8, 8, 8, 8, 8, 8, 8, 8, 8, 8, 8, 8, 8, 8, 8, 8, 8, 8, 8, 8, 8, 8, 8, 8, 8, 8, 8, 8, 8, 8, 8, 8, 8, 8, 8, 8, 8, 8, 8, 8, 8, 8, 8, 8, 8, 8, 8, 8, 8, 8, 8, 8, 8, 8, 8, 8, 8, 8, 8, 8, 8, 8, 8, 8, 8, 8, 8, 8, 8, 8, 8, 8, 8, 8, 8, 8, 8, 8, 8, 8, 8, 8, 8, 8, 8, 8, 8, 8, 8, 8, 8, 8, 8, 8, 8, 8, 8, 8, 8, 8]⟩ : ByteArray) (ji8)
     replace p11 := eq_true p11
     replace q11 := eq_true q11
     go_enter Try.func76, Try.ntmps76
     go_wp2
     go_ret
     exact ⟨by first | rfl | (simp; done) | (simp only [← hji8] <;> (first | rfl | simp)) | (simp [*]; done), by repeat (first | exact Drawn0.refl _ | apply Drawn0.step)⟩
    ·rw [if_neg c10] at H
     exact absurd H (by simp)
   ·rw [if_neg c9] at H
    exact absurd H (by simp)
 ·rw [if_neg c2] at H
  have c2b0 : decide (65536 ≤ a0) = false := decide_eq_false c2
  clear c2
  by_cases c12 : a0 ≥ 256
  ·rw [if_pos c12] at H
   have c12b0 : decide (256 ≤ a0) = true := decide_eq_true c12
   clear c12
   obtain ⟨ji13, hji13⟩ : ∃ j_ : Int, ((a0 / 256) % 256) = j_ := ⟨_, rfl⟩
   replace H : (if 0 ≤ (ji13) then (if (ji13) < 256 then (some (wrap64 ((0 + 8) + (wrap64 (bt (⟨#[0, 1, 2, 2, 3, 3, 3, 3, 4, 4, 4, 4, 4, 4, 4, 4, 5, 5, 5, 5, 5, 5, 5, 5, 5, 5, 5, 5, 5, 5, 5, 5, 6, 6, 6, 6, 6, 6, 6, 6, 6, 6, 6, 6, 6, 6, 6, 6, 6, 6, 6, 6, 6, 6, 6, 6, 6, 6, 6, 6, 6, 6, 6, 6, 7, 7, 7, 7, 7, 7, 7, 7, 7, 7, 7, 7, 7, 7, 7, 7, 7, 7, 7, 7, 7, 7, 7, 7, 7, 7, 7, 7, 7, 7, 7, 7, 7, 7, 7, 7, 7, 7, 7, 7, 7, 7, 7, 7, 7, 7, 7, 7, 7, 7, 7, 7, 7, 7, 7, 7, 7, 7, 7, 7, 7, 7, 7, 7, 8, 8, 8, 8, 8, 8, 8, 8, 8, 8, 8, 8, 8, 8, 8, 8, 8, 8, 8, 8, 8, 8, 8, 8, 8, 8, 8, 8, 8, 8, 8, 8, 8, 8, 8, 8, 8, 8, 8, 8, 8, 8, 8, 8, 8, 8, 8, 8, 8, 8, 8, 8, 8, 8, 8, 8, 8, 8, 8, 8, 8, 8, 8, 8, 8, 8, 8, 8, 8, 8, 8, 8, 8, 8, 8, 8, 8, 8, 8, 8, 8, 8, 8, 8, 8, 8, 8, 8, 8, 8, 8, 8, 8, 8, 8, 8, 8, 8, 8, 8, 8, 8, 8, 8, 8, 8, 8, 8, 8, 8, 8, 8, 8, 8, 8, 8, 8, 8, 8, 8, 8, 8, 8, 8, 8, 8, 8, 8]⟩ : ByteArray) (ji13)))))) else (none)) else (none)) = some r := by first | (rw [hji13] at H; exact H) | (simp only [hji13] at H ⊢; exact H)
   by_cases c14 : 0 ≤ (ji13)
   ·rw [if_pos c14] at H
    have c14b0 : decide (0 ≤ (ji13)) = true := decide_eq_true c14
    clear c14
    by_cases c15 : (ji13) < 256
    ·rw [if_pos c15] at H
     have c15b0 : decide ((ji13) < 256) = true := decide_eq_true c15
     clear c15
     obtain rfl := Option.some.inj H
     have p16 : 0 ≤ ((ji13) : Int) := of_decide_eq_true (by first | (with_reducible assumption) | assumption)
     have q16 : (ji13) < (256 : Int) := of_decide_eq_true (by first | (with_reducible assumption) | assumption)
     have hx16 := bt_at (⟨#[0, 1, 2, 2, 3, 3, 3, 3, 4, 4, 4, 4, 4, 4, 4, 4, 5, 5, 5, 5, 5, 5, 5, 5, 5, 5, 5, 5, 5, 5, 5, 5, 6, 6, 6, 6, 6, 6, 6, 6, 6, 6, 6, 6, 6, 6, 6, 6, 6, 6, 6, 6, 6, 6, 6, 6, 6, 6, 6, 6, 6, 6, 6, 6, 7, 7, 7, 7, 7, 7, 7, 7, 7, 7, 7, 7, 7, 7, 7, 7, 7, 7, 7, 7, 7, 7, 7, 7, 7, 7, 7, 7, 7, 7, 7, 7, 7, 7, 7, 7, 7, 7, 7, 7, 7, 7, 7, 7, 7, 7, 7, 7, 7, 7, 7, 7, 7, 7, 7, 7, 7, 7, 7, 7, 7, 7, 7, 7, 8, 8, 8, 8, 8, 8, 8, 8, 8, 8, 8, 8, 8, 8, 8, 8, 8, 8, 8, 8, 8, 8, 8, 8, 8, 8, 8, 8, 8, 8, 8, 8, 8, 8, 8, 8, 8, 8, 8, 8, 8, 8, 8, 8, 8, 8, 8, 8, 8, 8, 8, 8, 8, 8, 8, 8, 8, 8, 8, 8, 8, 8, 8, 8, 8, 8, 8, 8, 8, 8, 8, 8, 8, 8, 8, 8, 8, 8, 8, 8, 8, 8, 8, 8, 8, 8, 8, 8, 8, 8, 8, 8, 8, 8, 8, 8, 8, 8, 8, 8, 8, 8, 8, 8, 8, 8, 8, 8, 8, 8, 8, 8, 8, 8, 8, 8, 8, 8, 8, 8, 8, 8, 8, 8, 8, 8, 8, 8]⟩ : ByteArray) (ji13)
     replace p16 := eq_true p16
     replace q16 := eq_true q16
     go_enter Try.func76, Try.ntmps76
     go_wp2
     go_ret
     exact ⟨by first | rfl | (simp; done) | (simp only [← hji13] <;> (first | rfl | simp)) | (simp [*]; done), by repeat (first | exact Drawn0.refl _ | apply Drawn0.step)⟩
    ·rw [if_neg c15] at H
     exact absurd H (by simp)
   ·rw [if_neg c14] at H
    exact absurd H (by simp)
  ·rw [if_neg c12] at H
   have c12b0 : decide (256 ≤ a0) = false := decide_eq_false c12
   clear c12
   obtain ⟨ji17, hji17⟩ : ∃ j_ : Int, ((a0) % 256) = j_ := ⟨_, rfl⟩
   replace H : (if 0 ≤ (ji17) then (if (ji17) < 256 then (some (wrap64 (0 + (wrap64 (bt (⟨#[0, 1, 2, 2, 3, 3, 3, 3, 4, 4, 4, 4, 4, 4, 4, 4, 5, 5, 5, 5, 5, 5, 5, 5, 5, 5, 5, 5, 5, 5, 5, 5, 6, 6, 6, 6, 6, 6, 6, 6, 6, 6, 6, 6, 6, 6, 6, 6, 6, 6, 6, 6, 6, 6, 6, 6, 6, 6, 6, 6, 6, 6, 6, 6, 7, 7, 7, 7, 7, 7, 7, 7, 7, 7, 7, 7, 7, 7, 7, 7, 7, 7, 7, 7, 7, 7, 7, 7, 7, 7, 7, 7, 7, 7, 7, 7, 7, 7, 7, 7, 7, 7, 7, 7, 7, 7, 7, 7, 7, 7, 7, 7, 7, 7, 7, 7, 7, 7, 7, 7, 7, 7, 7, 7, 7, 7, 7, 7, 8, 8, 8, 8, 8, 8, 8, 8, 8, 8, 8, 8, 8, 8, 8, 8, 8, 8, 8, 8, 8, 8, 8, 8, 8, 8, 8, 8, 8, 8, 8, 8, 8, 8, 8, 8, 8, 8, 8, 8, 8, 8, 8, 8, 8, 8, 8, 8, 8, 8, 8, 8, 8, 8, 8, 8, 8, 8, 8, 8, 8, 8, 8, 8, 8, 8, 8, 8, 8, 8, 8, 8, 8, 8, 8, 8, 8, 8, 8, 8, 8, 8, 8, 8, 8, 8, 8, 8, 8, 8, 8, 8, 8, 8, 8, 8, 8, 8, 8, 8, 8, 8, 8, 8, 8, 8, 8, 8, 8, 8, 8, 8, 8, 8, 8, 8, 8, 8, 8, 8, 8, 8, 8, 8, 8, 8, 8, 8]⟩ : ByteArray) (ji17)))))) else (none)) else (none)) = some r := by first | (rw [hji17] at H; exact H) | (simp only [hji17] at H ⊢; exact H)
   by_cases c18 : 0 ≤ (ji17)
   ·rw [if_pos c18] at H
    have c18b0 : decide (0 ≤ (ji17)) = true := decide_eq_true c18
    clear c18
    by_cases c19 : (ji17) < 256
    ·rw [if_pos c19] at H
     have c19b0 : decide ((ji17) < 256) = true := decide_eq_true c19
     clear c19
     obtain rfl := Option.some.inj H
     have p20 : 0 ≤ ((ji17) : Int) := of_decide_eq_true (by first | (with_reducible assumption) | assumption)
     have q20 : (ji17) < (256 : Int) := of_decide_eq_true (by first | (with_reducible assumption) | assumption)
     have hx20 := bt_at (⟨#[0, 1, 2, 2, 3, 3, 3, 3, 4, 4, 4, 4, 4, 4, 4, 4, 5, 5, 5, 5, 5, 5, 5, 5, 5, 5, 5, 5, 5, 5, 5, 5, 6, 6, 6, 6, 6, 6, 6, 6, 6, 6, 6, 6, 6, 6, 6, 6, 6, 6, 6, 6, 6, 6, 6, 6, 6, 6, 6, 6, 6, 6, 6, 6, 7, 7, 7, 7, 7, 7, 7, 7, 7, 7, 7, 7, 7, 7, 7, 7, 7, 7, 7, 7, 7, 7, 7, 7, 7, 7, 7, 7, 7, 7, 7, 7, 7, 7, 7, 7, 7, 7, 7, 7, 7, 7, 7, 7, 7, 7, 7, 7, 7, 7, 7, 7, 7, 7, 7, 7, 7, 7, 7, 7, 7, 7, 7, 7, 8, 8, 8, 8, 8, 8, 8, 8, 8, 8, 8, 8, 8, 8, 8, 8, 8, 8, 8, 8, 8, 8, 8, 8, 8, 8, 8, 8, 8, 8, 8, 8, 8, 8, 8, 8, 8, 8, 8, 8, 8, 8, 8, 8, 8, 8, 8, 8, 8, 8, 8, 8, 8, 8, 8, 8, 8, 8, 8, 8, 8, 8, 8, 8, 8, 8, 8, 8, 8, 8, 8, 8, 8, 8, 8, 8, 8, 8, 8, 8, 8, 8, 8, 8, 8, 8, 8, 8, 8, 8, 8, 8, 8, 8, 8, 8, 8, 8, 8, 8, 8, 8, 8, 8, 8, 8, 8, 8, 8, 8, 8, 8, 8, 8, 8, 8, 8, 8, 8, 8, 8, 8, 8, 8, 8, 8, 8, 8]⟩ : ByteArray) (ji17)
     replace p20 := eq_true p20
     replace q20 := eq_true q20
     go_enter Try.func76, Try.ntmps76
     go_wp2
     go_ret
     exact ⟨by first | rfl | (simp; done) | (simp only [← hji17] <;> (first | rfl | simp)) | (simp [*]; done), by repeat (first | exact Drawn0.refl _ | apply Drawn0.step)⟩
    ·rw [if_neg c19] at H
     exact absurd H (by simp)
   ·rw [if_neg c18] at H
    exact absurd H (by simp)

theorem bits_Len32.table : ∀ i : Nat, i < 256 → i < 2 ^ (bt (⟨#[0, 1, 2, 2, 3, 3, 3, 3, 4, 4, 4, 4, 4, 4, 4, 4, 5, 5, 5, 5, 5, 5, 5, 5, 5, 5, 5, 5, 5, 5, 5, 5, 6, 6, 6, 6, 6, 6, 6, 6, 6, 6, 6, 6, 6, 6, 6, 6, 6, 6, 6, 6, 6, 6, 6, 6, 6, 6, 6, 6, 6, 6, 6, 6, 7, 7, 7, 7, 7, 7, 7, 7, 7, 7, 7, 7, 7, 7, 7, 7, 7, 7, 7, 7, 7, 7, 7, 7, 7, 7, 7, 7, 7, 7, 7, 7, 7, 7, 7, 7, 7, 7, 7, 7, 7, 7, 7, 7, 7, 7, 7, 7, 7, 7, 7, 7, 7, 7, 7, 7, 7, 7, 7, 7, 7, 7, 7, 7, 8, 8, 8, 8, 8, 8, 8, 8, 8, 8, 8, 8, 8, 8, 8, 8, 8, 8, 8, 8, 8, 8, 8, 8, 8, 8, 8, 8, 8, 8, 8, 8, 8, 8, 8, 8, 8, 8, 8, 8, 8, 8, 8, 8, 8, 8, 8, 8, 8, 8, 8, 8, 8, 8, 8, 8, 8, 8, 8, 8, 8, 8, 8, 8, 8, 8, 8, 8, 8, 8, 8, 8, 8, 8, 8, 8, 8, 8, 8, 8, 8, 8, 8, 8, 8, 8, 8, 8, 8, 8, 8, 8, 8, 8, 8, 8, 8, 8, 8, 8, 8, 8, 8, 8, 8, 8, 8, 8, 8, 8, 8, 8, 8, 8, 8, 8, 8, 8, 8, 8, 8, 8, 8, 8, 8, 8, 8, 8]⟩ : ByteArray) (i : Int)).toNat ∧ (i ≠ 0 → 1 ≤ (bt (⟨#[0, 1, 2, 2, 3, 3, 3, 3, 4, 4, 4, 4, 4, 4, 4, 4, 5, 5, 5, 5, 5, 5, 5, 5, 5, 5, 5, 5, 5, 5, 5, 5, 6, 6, 6, 6, 6, 6, 6, 6, 6, 6, 6, 6, 6, 6, 6, 6, 6, 6, 6, 6, 6, 6, 6, 6, 6, 6, 6, 6, 6, 6, 6, 6, 7, 7, 7, 7, 7, 7, 7, 7, 7, 7, 7, 7, 7, 7, 7, 7, 7, 7, 7, 7, 7, 7, 7, 7, 7, 7, 7, 7, 7, 7, 7, 7, 7, 7, 7, 7, 7, 7, 7, 7, 7, 7, 7, 7, 7, 7, 7, 7, 7, 7, 7, 7, 7, 7, 7, 7, 7, 7, 7, 7, 7, 7, 7, 7, 8, 8, 8, 8, 8, 8, 8, 8, 8, 8, 8, 8, 8, 8, 8, 8, 8, 8, 8, 8, 8, 8, 8, 8, 8, 8, 8, 8, 8, 8, 8, 8, 8, 8, 8, 8, 8, 8, 8, 8, 8, 8, 8, 8, 8, 8, 8, 8, 8, 8, 8, 8, 8, 8, 8, 8, 8, 8, 8, 8, 8, 8, 8, 8, 8, 8, 8, 8, 8, 8, 8, 8, 8, 8, 8, 8, 8, 8, 8, 8, 8, 8, 8, 8, 8, 8, 8, 8, 8, 8, 8, 8, 8, 8, 8, 8, 8, 8, 8, 8, 8, 8, 8, 8, 8, 8, 8, 8, 8, 8, 8, 8, 8, 8, 8, 8, 8, 8, 8, 8, 8, 8, 8, 8, 8, 8, 8, 8]⟩ : ByteArray) (i : Int)).toNat ∧ 2 ^ ((bt (⟨#[0, 1, 2, 2, 3, 3, 3, 3, 4, 4, 4, 4, 4, 4, 4, 4, 5, 5, 5, 5, 5, 5, 5, 5, 5, 5, 5, 5, 5, 5, 5, 5, 6, 6, 6, 6, 6, 6, 6, 6, 6, 6, 6, 6, 6, 6, 6, 6, 6, 6, 6, 6, 6, 6, 6, 6, 6, 6, 6, 6, 6, 6, 6, 6, 7, 7, 7, 7, 7, 7, 7, 7, 7, 7, 7, 7, 7, 7, 7, 7, 7, 7, 7, 7, 7, 7, 7, 7, 7, 7, 7, 7, 7, 7, 7, 7, 7, 7, 7, 7, 7, 7, 7, 7, 7, 7, 7, 7, 7, 7, 7, 7, 7, 7, 7, 7, 7, 7, 7, 7, 7, 7, 7, 7, 7, 7, 7, 7, 8, 8, 8, 8, 8, 8, 8, 8, 8, 8, 8, 8, 8, 8, 8, 8, 8, 8, 8, 8, 8, 8, 8, 8, 8, 8, 8, 8, 8, 8, 8, 8, 8, 8, 8, 8, 8, 8, 8, 8, 8, 8, 8, 8, 8, 8, 8, 8, 8, 8, 8, 8, 8, 8, 8, 8, 8, 8, 8, 8, 8, 8, 8, 8, 8, 8, 8, 8, 8, 8, 8, 8, 8, 8, 8, 8, 8, 8, 8, 8, 8, 8, 8, 8, 8, 8, 8, 8, 8, 8, 8, 8, 8, 8, 8, 8, 8, 8, 8, 8, 8, 8, 8, 8, 8, 8, 8, 8, 8, 8, 8, 8, 8, 8, 8, 8, 8, 8, 8, 8, 8, 8, 8, 8, 8, 8, 8, 8]⟩ : ByteArray) (i : Int)).toNat - 1) ≤ i) := by decide +kernel
theorem bits_Len32.zero : bt (⟨#[0, 1, 2, 2, 3, 3, 3, 3, 4, 4, 4, 4, 4, 4, 4, 4, 5, 5, 5, 5, 5, 5, 5, 5, 5, 5, 5, 5, 5, 5, 5, 5, 6, 6, 6, 6, 6, 6, 6, 6, 6, 6, 6, 6, 6, 6, 6, 6, 6, 6, 6, 6, 6, 6, 6, 6, 6, 6, 6, 6, 6, 6, 6, 6, 7, 7, 7, 7, 7, 7, 7, 7, 7, 7, 7, 7, 7, 7, 7, 7, 7, 7, 7, 7, 7, 7, 7, 7, 7, 7, 7, 7, 7, 7, 7, 7, 7, 7, 7, 7, 7, 7, 7, 7, 7, 7, 7, 7, 7, 7, 7, 7, 7, 7, 7, 7, 7, 7, 7, 7, 7, 7, 7, 7, 7, 7, 7, 7, 8, 8, 8, 8, 8, 8, 8, 8, 8, 8, 8, 8, 8, 8, 8, 8, 8, 8, 8, 8, 8, 8, 8, 8, 8, 8, 8, 8, 8, 8, 8, 8, 8, 8, 8, 8, 8, 8, 8, 8, 8, 8, 8, 8, 8, 8, 8, 8, 8, 8, 8, 8, 8, 8, 8, 8, 8, 8, 8, 8, 8, 8, 8, 8, 8, 8, 8, 8, 8, 8, 8, 8, 8, 8, 8, 8, 8, 8, 8, 8, 8, 8, 8, 8, 8, 8, 8, 8, 8, 8, 8, 8, 8, 8, 8, 8, 8, 8, 8, 8, 8, 8, 8, 8, 8, 8, 8, 8, 8, 8, 8, 8, 8, 8, 8, 8, 8, 8, 8, 8, 8, 8, 8, 8, 8, 8, 8, 8]⟩ : ByteArray) ((0 : Nat) : Int) = ((0 : Nat) : Int) := by decide +kernel
theorem bits_Len32.at_ {i : Nat} (h : i < 256) : bt (⟨#[0, 1, 2, 2, 3, 3, 3, 3, 4, 4, 4, 4, 4, 4, 4, 4, 5, 5, 5, 5, 5, 5, 5, 5, 5, 5, 5, 5, 5, 5, 5, 5, 6, 6, 6, 6, 6, 6, 6, 6, 6, 6, 6, 6, 6, 6, 6, 6, 6, 6, 6, 6, 6, 6, 6, 6, 6, 6, 6, 6, 6, 6, 6, 6, 7, 7, 7, 7, 7, 7, 7, 7, 7, 7, 7, 7, 7, 7, 7, 7, 7, 7, 7, 7, 7, 7, 7, 7, 7, 7, 7, 7, 7, 7, 7, 7, 7, 7, 7, 7, 7, 7, 7, 7, 7, 7, 7, 7, 7, 7, 7, 7, 7, 7, 7, 7, 7, 7, 7, 7, 7, 7, 7, 7, 7, 7, 7, 7, 8, 8, 8, 8, 8, 8, 8, 8, 8, 8, 8, 8, 8, 8, 8, 8, 8, 8, 8, 8, 8, 8, 8, 8, 8, 8, 8, 8, 8, 8, 8, 8, 8, 8, 8, 8, 8, 8, 8, 8, 8, 8, 8, 8, 8, 8, 8, 8, 8, 8, 8, 8, 8, 8, 8, 8, 8, 8, 8, 8, 8, 8, 8, 8, 8, 8, 8, 8, 8, 8, 8, 8, 8, 8, 8, 8, 8, 8, 8, 8, 8, 8, 8, 8, 8, 8, 8, 8, 8, 8, 8, 8, 8, 8, 8, 8, 8, 8, 8, 8, 8, 8, 8, 8, 8, 8, 8, 8, 8, 8, 8, 8, 8, 8, 8, 8, 8, 8, 8, 8, 8, 8, 8, 8, 8, 8, 8, 8]⟩ : ByteArray) (i : Int) = ((Num.blen i : Nat) : Int) := by
 obtain ⟨h1, h2⟩ := bits_Len32.table i h
 have h3 := (bt_range (⟨#[0, 1, 2, 2, 3, 3, 3, 3, 4, 4, 4, 4, 4, 4, 4, 4, 5, 5, 5, 5, 5, 5, 5, 5, 5, 5, 5, 5, 5, 5, 5, 5, 6, 6, 6, 6, 6, 6, 6, 6, 6, 6, 6, 6, 6, 6, 6, 6, 6, 6, 6, 6, 6, 6, 6, 6, 6, 6, 6, 6, 6, 6, 6, 6, 7, 7, 7, 7, 7, 7, 7, 7, 7, 7, 7, 7, 7, 7, 7, 7, 7, 7, 7, 7, 7, 7, 7, 7, 7, 7, 7, 7, 7, 7, 7, 7, 7, 7, 7, 7, 7, 7, 7, 7, 7, 7, 7, 7, 7, 7, 7, 7, 7, 7, 7, 7, 7, 7, 7, 7, 7, 7, 7, 7, 7, 7, 7, 7, 8, 8, 8, 8, 8, 8, 8, 8, 8, 8, 8, 8, 8, 8, 8, 8, 8, 8, 8, 8, 8, 8, 8, 8, 8, 8, 8, 8, 8, 8, 8, 8, 8, 8, 8, 8, 8, 8, 8, 8, 8, 8, 8, 8, 8, 8, 8, 8, 8, 8, 8, 8, 8, 8, 8, 8, 8, 8, 8, 8, 8, 8, 8, 8, 8, 8, 8, 8, 8, 8, 8, 8, 8, 8, 8, 8, 8, 8, 8, 8, 8, 8, 8, 8, 8, 8, 8, 8, 8, 8, 8, 8, 8, 8, 8, 8, 8, 8, 8, 8, 8, 8, 8, 8, 8, 8, 8, 8, 8, 8, 8, 8, 8, 8, 8, 8, 8, 8, 8, 8, 8, 8, 8, 8, 8, 8, 8, 8]⟩ : ByteArray) (i : Int)).1
 obtain ⟨v, hv'⟩ : ∃ v, v = bt (⟨#[0, 1, 2, 2, 3, 3, 3, 3, 4, 4, 4, 4, 4, 4, 4, 4, 5, 5, 5, 5, 5, 5, 5, 5, 5, 5, 5, 5, 5, 5, 5, 5, 6, 6, 6, 6, 6, 6, 6, 6, 6, 6, 6, 6, 6, 6, 6, 6, 6, 6, 6, 6, 6, 6, 6, 6, 6, 6, 6, 6, 6, 6, 6, 6, 7, 7, 7, 7, 7, 7, 7, 7, 7, 7, 7, 7, 7, 7, 7, 7, 7, 7, 7, 7, 7, 7, 7, 7, 7, 7, 7, 7, 7, 7, 7, 7, 7, 7, 7, 7, 7, 7, 7, 7, 7, 7, 7, 7, 7, 7, 7, 7, 7, 7, 7, 7, 7, 7, 7, 7, 7, 7, 7, 7, 7, 7, 7, 7, 8, 8, 8, 8, 8, 8, 8, 8, 8, 8, 8, 8, 8, 8, 8, 8, 8, 8, 8, 8, 8, 8, 8, 8, 8, 8, 8, 8, 8, 8, 8, 8, 8, 8, 8, 8, 8, 8, 8, 8, 8, 8, 8, 8, 8, 8, 8, 8, 8, 8, 8, 8, 8, 8, 8, 8, 8, 8, 8, 8, 8, 8, 8, 8, 8, 8, 8, 8, 8, 8, 8, 8, 8, 8, 8, 8, 8, 8, 8, 8, 8, 8, 8, 8, 8, 8, 8, 8, 8, 8, 8, 8, 8, 8, 8, 8, 8, 8, 8, 8, 8, 8, 8, 8, 8, 8, 8, 8, 8, 8, 8, 8, 8, 8, 8, 8, 8, 8, 8, 8, 8, 8, 8, 8, 8, 8, 8, 8]⟩ : ByteArray) (i : Int) := ⟨_, rfl⟩
 rw [← hv'] at h1 h2 h3 ⊢
 obtain ⟨n, rfl⟩ : ∃ n : Nat, v = (n : Int) := ⟨v.toNat, by omega⟩
 rw [Int.toNat_natCast] at h1 h2
 by_cases h0 : i = 0
 ·subst h0
  rw [Num.blen_zero]
  rw [hv']
  exact bits_Len32.zero
 ·obtain ⟨h4, h5⟩ := h2 h0
  obtain ⟨m, rfl⟩ : ∃ m, n = m + 1 := ⟨n - 1, by omega⟩
  rw [Nat.add_sub_cancel] at h5
  rw [Num.blen_eq h5 h1]
theorem bits_Len32.blen_div (k : Nat) : ∀ n : Nat, 2 ^ k ≤ n → Num.blen n = Num.blen (n / 2 ^ k) + k := by
 induction k with
 | zero => intro n _; rw [Nat.pow_zero, Nat.div_one]; rfl
 | succ k ih =>
  intro n h
  rw [Nat.pow_succ] at h
  have hp : 0 < 2 ^ k := Nat.pow_pos (by omega)
  rw [Num.blen_pos (by omega), ih (n / 2) (by omega), Nat.div_div_eq_div_mul, Nat.pow_succ, Nat.mul_comm 2]
  omega
theorem bits_Len32.sem {n : Nat} (h : n < 4294967296) : bits_Len32.f (n : Int) = some ((Num.blen n : Nat) : Int) := by
 have le8 : ∀ i : Nat, i < 256 → Num.blen i ≤ 8 := by
  intro i hi
  rcases Nat.lt_or_ge 8 (Num.blen i) with h1 | h1
  ·have h0 : i ≠ 0 := by
    intro e
    rw [e, Num.blen_zero] at h1
    omega
   have h2 := Num.blen_le h0
   have h3 : 2 ^ 8 ≤ 2 ^ (Num.blen i - 1) := Nat.pow_le_pow_right (by omega) (by omega)
   omega
  ·exact h1
 unfold bits_Len32.f
 by_cases h1 : 65536 ≤ n
 ·rw [if_pos (by omega)]
  by_cases h2 : 256 ≤ n / 65536
  ·have e : ((n : Int) / 65536 / 256) % 256 = ((n / 2 ^ 24 : Nat) : Int) := by omega
   have hi : n / 2 ^ 24 < 256 := by omega
   have := le8 _ hi
   rw [if_pos (by omega), e, if_pos (by omega), if_pos (by omega), bits_Len32.at_ hi, Dec.w64n _ (by omega), Dec.w64 (by omega) (by omega), bits_Len32.blen_div 24 n (by omega)]
   congr 1
   omega
  ·have e : ((n : Int) / 65536) % 256 = ((n / 2 ^ 16 : Nat) : Int) := by omega
   have hi : n / 2 ^ 16 < 256 := by omega
   have := le8 _ hi
   rw [if_neg (by omega), e, if_pos (by omega), if_pos (by omega), bits_Len32.at_ hi, Dec.w64n _ (by omega), Dec.w64 (by omega) (by omega), bits_Len32.blen_div 16 n (by omega)]
   congr 1
   omega
 ·rw [if_neg (by omega)]
  by_cases h2 : 256 ≤ n
  ·have e : ((n : Int) / 256) % 256 = ((n / 2 ^ 8 : Nat) : Int) := by omega
   have hi : n / 2 ^ 8 < 256 := by omega
   have := le8 _ hi
   rw [if_pos (by omega), e, if_pos (by omega), if_pos (by omega), bits_Len32.at_ hi, Dec.w64n _ (by omega), Dec.w64 (by omega) (by omega), bits_Len32.blen_div 8 n (by omega)]
   congr 1
   omega
  ·have e : (n : Int) % 256 = (n : Int) := by omega
   have := le8 n (by omega)
   rw [if_neg (by omega), e, if_pos (by omega), if_pos (by omega), bits_Len32.at_ (by omega), Dec.w64n _ (by omega), Dec.w64 (by omega) (by omega)]
   congr 1
   omega
/-! ### nat_Bits: function 43 -/
def nat_Bits.f (k : Nat) (l0 : List Int) : Option (Int) := (nat_trim.f k l0).bind fun t220 => (if (t220.length : Int) = 0 then (some 0) else (if 0 ≤ (wrap64 ((t220.length : Int) - 1)) then (if (wrap64 ((t220.length : Int) - 1)) < (t220.length : Int) then ((bits_Len32.f (rd t220 (wrap64 ((t220.length : Int) - 1)))).bind fun t224 => (some (wrap64 ((wrap64 (32 * (wrap64 ((t220.length : Int) - 1)))) + t224)))) else (none)) else (none)))
set_option maxHeartbeats 8000000 in
set_option maxRecDepth 100000 in
theorem nat_Bits.calls (k : Nat) (A0 : Option Addr) (c0 : Nat) (l0 : List Int) (r : Int) (w : World) (hr0 : Kd.C (Kd.int .u32) w A0 l0.length l0) (hc0 : l0.length ≤ c0) (h : nat_Bits.f k l0 = some r) :
  Calls Try.prog 43 #[.slice A0 l0.length c0] w fun e w' => e = .returned (.int .i64 r) ∧ Below w.heap.size w w' := by
 have HR0 := Aside0.mk hr0
 have HC0 := Aside0.mk hc0
 clear hr0 hc0
 have HB := Aside0.mk (Below.refl w.heap.size w)
 have H : ((nat_trim.f k l0).bind fun t220 => (if (t220.length : Int) = 0 then (some 0) else (if 0 ≤ (wrap64 ((t220.length : Int) - 1)) then (if (wrap64 ((t220.length : Int) - 1)) < (t220.length : Int) then ((bits_Len32.f (rd t220 (wrap64 ((t220.length : Int) - 1)))).bind fun t224 => (some (wrap64 ((wrap64 (32 * (wrap64 ((t220.length : Int) - 1)))) + t224)))) else (none)) else (none)))) = some r := h
 clear h
 replace H := Option.bind_eq_some_iff.mp H
 obtain ⟨t220, A20, H⟩ := H
 try dsimp only at H
 have A2 := Aside0.mk A20
 clear A20
 by_cases c3 : (t220.length : Int) = 0
 ·rw [if_pos c3] at H
  have c3b0 : ((t220.length : Int) == 0) = true := beq_iff_eq.mpr c3
  have c3b1 : ((t220.length : Int) != 0) = false := bne_eq_false_iff_eq.mpr c3
  clear c3
  obtain rfl := Option.some.inj H
  go_enter Try.func43, Try.ntmps43
  go_wp2_with (first | ((with_reducible refine gate_callee (f := 71) rfl ?_); refine Short.goesS_ (some 4) Try.func71 #[.slice A0 l0.length c0] ?_; (with_reducible refine (nat_trim.calls k _ _ l0 t220 _ HR0.out HC0.out A2.out).mono ?_); rintro e w4 ⟨v221, rfl, ho0, hb⟩; refine ⟨_, rfl, ?_⟩; have HO222 := Aside0.mk (Kd.R_lower ho0 (below_size (by repeat (first | (with_reducible first | exact HB.out | apply below_alloc | apply pw_below_drewN | apply below_drew1) | exact HB.out)))); replace HB := Aside0.mk (below_step (by repeat (first | (with_reducible first | exact HB.out | apply below_alloc | apply pw_below_drewN | apply below_drew1) | exact HB.out)) hb); (try clear hb); (try clear ho0); obtain ⟨Ao5, co5, eo5⟩ := Kd.R_slice HO222.out; subst eo5))
  go_ret
  exact ⟨by rfl, by repeat (first | (with_reducible first | exact HB.out | apply below_alloc | apply pw_below_drewN | apply below_drew1) | exact HB.out)⟩
 ·rw [if_neg c3] at H
  have c3b0 : ((t220.length : Int) == 0) = false := beq_eq_false_iff_ne.mpr c3
  have c3b1 : ((t220.length : Int) != 0) = true := bne_iff_ne.mpr c3
  have c3b2 : ¬ (t220 = []) := fun h_ => c3 (by rw [h_]; rfl)
  obtain ⟨ji6, hji6⟩ : ∃ j_ : Int, (wrap64 ((t220.length : Int) - 1)) = j_ := ⟨_, rfl⟩
  replace H : (if 0 ≤ (ji6) then (if (ji6) < (t220.length : Int) then ((bits_Len32.f (rd t220 (ji6))).bind fun t224 => (some (wrap64 ((wrap64 (32 * (ji6))) + t224)))) else (none)) else (none)) = some r := by first | (rw [hji6] at H; exact H) | (simp only [hji6] at H ⊢; exact H)
  (try rw [hji6] at A2)
  have hji6w : (IntKind.i64.wrap ((t220.length : Int) - 1)) = ji6 := (i64_w _).trans hji6
  by_cases c7 : 0 ≤ (ji6)
  ·rw [if_pos c7] at H
   have c7b0 : decide (0 ≤ (ji6)) = true := decide_eq_true c7
   clear c7
   by_cases c8 : (ji6) < (t220.length : Int)
   ·rw [if_pos c8] at H
    have c8b0 : decide ((ji6) < (t220.length : Int)) = true := decide_eq_true c8
    clear c8
    replace H := Option.bind_eq_some_iff.mp H
    obtain ⟨t224, A90, H⟩ := H
    replace H : (some (wrap64 ((wrap64 (32 * (ji6))) + t224))) = some r := H
    have A9 := Aside0.mk A90
    clear A90
    obtain rfl := Option.some.inj H
    go_enter Try.func43, Try.ntmps43
    go_wp2_with (first | ((with_reducible refine gate_callee (f := 71) rfl ?_); refine Short.goesS_ (some 4) Try.func71 #[.slice A0 l0.length c0] ?_; (with_reducible refine (nat_trim.calls k _ _ l0 t220 _ HR0.out HC0.out A2.out).mono ?_); rintro e w10 ⟨v221, rfl, ho0, hb⟩; refine ⟨_, rfl, ?_⟩; have HO222 := Aside0.mk (Kd.R_lower ho0 (below_size (by repeat (first | (with_reducible first | exact HB.out | apply below_alloc | apply pw_below_drewN | apply below_drew1) | exact HB.out)))); replace HB := Aside0.mk (below_step (by repeat (first | (with_reducible first | exact HB.out | apply below_alloc | apply pw_below_drewN | apply below_drew1) | exact HB.out)) hb); (try clear hb); (try clear ho0); obtain ⟨Ao11, co11, eo11⟩ := Kd.R_slice HO222.out; subst eo11; have p223 : 0 ≤ ((ji6) : Int) := of_decide_eq_true (by first | (with_reducible assumption) | assumption); have q223 : (ji6) < (t220.length : Int) := of_decide_eq_true (by first | (with_reducible assumption) | assumption); obtain ⟨ad223, e223, hx223_0⟩ := Kd.at_int (Kd.R_reads' HO222.out).2.2 (ji6) p223 q223; cases e223; replace p223 := eq_true p223; replace q223 := eq_true q223) | ((with_reducible refine gate_callee (f := 76) rfl ?_); refine goesL_ (some 18) rfl rfl Try.func76 (by kernel_rfl) rfl #[.int .u32 (rd t220 (ji6))] rfl (by (try simp only [List.map_toArray, List.map_cons, List.map_nil]); first | done | (simp only [hji6]; rfl) | rfl) ?_; (with_reducible refine (bits_Len32.calls (rd t220 (ji6)) t224 _ A9.out).mono ?_); rintro e w' ⟨rfl, ⟨nd, rfl⟩⟩; refine ⟨_, rfl, ?_⟩))
    go_ret
    exact ⟨by first | rfl | (simp [errW_none, errW_some] <;> rfl) | (simp only [← hji6]; first | rfl | (simp [errW_none, errW_some] <;> rfl)) | (simp [*, errW_none, errW_some] <;> rfl), by repeat (first | (with_reducible first | exact HB.out | apply below_alloc | apply pw_below_drewN | apply below_drew1) | exact HB.out)⟩
   ·rw [if_neg c8] at H
    exact absurd H (by simp)
  ·rw [if_neg c7] at H
   exact absurd H (by simp)

theorem nat_Bits.ev {l : List Int} (hW : Num.Ws l) (hl : l.length < 10000000) : Ev (fun k => nat_Bits.f k l) ((Num.blen (Num.nv l) : Nat) : Int) := by
 obtain ⟨x, hx⟩ : ∃ x, x = Num.nv l := ⟨_, rfl⟩
 have ht := nat_trim.ev hW (by omega)
 rw [← hx] at ht ⊢
 have hlx : (Num.nd x).length ≤ l.length := by rw [hx]; exact Num.nd_length_le (Num.nv_lt hW)
 unfold nat_Bits.f
 refine Ev.bind ht ?_
 by_cases h0 : x = 0
 ·subst h0
  rw [Num.nd_zero, Num.blen_zero]
  exact Dec.yes rfl (Ev.now _)
 ·have h2 : 0 < (Num.nd x).length := by
   rcases Nat.eq_zero_or_pos (Num.nd x).length with h | h
   ·exact absurd (Num.nd_eq_nil.1 (List.eq_nil_of_length_eq_zero h)) h0
   ·exact h
  obtain ⟨m, hm⟩ : ∃ m, (Num.nd x).length = m + 1 := ⟨(Num.nd x).length - 1, by omega⟩
  have hlast := Num.nd_last h0
  have hw := (Num.Ws_nd x).getD m
  obtain ⟨u, hu⟩ : ∃ u : Nat, (u : Int) = (Num.nd x).getD m 0 := ⟨((Num.nd x).getD m 0).toNat, by omega⟩
  rw [hm, Nat.add_sub_cancel, ← hu] at hlast
  have hs := Num.nv_split (Num.nd x) m (by omega)
  have htk := Num.nv_take_lt (Num.Ws_nd x) m (by omega)
  rw [Num.nv_nd, List.drop_of_length_le (by omega), ← hu, Int.toNat_natCast, Num.nv, Nat.mul_zero, Nat.add_zero] at hs
  have hdiv : x / 2 ^ (32 * m) = u := by
   rw [hs, Nat.add_mul_div_left _ _ (Nat.pow_pos (by omega)), Nat.div_eq_of_lt htk, Nat.zero_add]
  have hge : 2 ^ (32 * m) ≤ x := by
   have := Nat.mul_le_mul_left (2 ^ (32 * m)) (show 1 ≤ u from by omega)
   omega
  have hbl := bits_Len32.blen_div (32 * m) x hge
  rw [hdiv] at hbl
  have hu32 : u < 4294967296 := by omega
  have hb32 : Num.blen u ≤ 32 := by
   rcases Nat.lt_or_ge 32 (Num.blen u) with h1 | h1
   ·have h2 := Num.blen_le (show u ≠ 0 from by omega)
    have h3 : 2 ^ 32 ≤ 2 ^ (Num.blen u - 1) := Nat.pow_le_pow_right (by omega) (by omega)
    omega
   ·exact h1
  have ep : wrap64 (((Num.nd x).length : Int) - 1) = (m : Int) := by rw [hm, Dec.w64 (by omega) (by omega)]; omega
  have er : rd (Num.nd x) (m : Int) = (u : Int) := by rw [hu]; simp [rd]
  refine Ev.congr (f := fun _ => some ((Num.blen x : Nat) : Int)) (fun k => ?_) (Ev.now _)
  rw [if_neg (by omega), ep, if_pos (by omega), if_pos (by omega), er, bits_Len32.sem hu32, Option.bind_some, Dec.w64 (n := 32 * (m : Int)) (by omega) (by omega), Dec.w64 (by omega) (by omega), hbl]
  congr 1
  omega
end Go.Proofs.Ytcdkopidgibijaa.PR
