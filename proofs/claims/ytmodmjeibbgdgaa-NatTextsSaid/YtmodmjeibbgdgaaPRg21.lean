/- Several functions' printed texts in one file. -/
import Derived.Test.YtmodmjeibbgdgaaDec
import Derived.Test.YtmodmjeibbgdgaaPRg0
import Derived.Test.YtmodmjeibbgdgaaPRg16
import Derived.Test.YtmodmjeibbgdgaaNum
import Derived.Test.YtmodmjeibbgdgaaPRx20
section
-- PRINTED by print.py (a twelfth state) out of the translation. Not trusted: Lean checks it.
namespace Go.Proofs.Ytmodmjeibbgdgaa.PR
open Go.RowKit Go.Proofs.YtmodmjeibbgdgaaW.PrintWords Go.Proofs.YtmodmjeibbgdgaaW.PrintLast Go.Proofs.YtmodmjeibbgdgaaW.PrintMore
attribute [local go_sem] max2_int min2_int max_two min_two max_three min_three max_four min_four   -- for this text's walks alone
set_option linter.unusedVariables false
set_option linter.unusedSimpArgs false

/-! ### offcutref01_Add: function 31 -/
mutual
def offcutref01_Add.l0 : Nat → ByteArray → ByteArray → ByteArray → Int → Int → Option (ByteArray)
  | 0, _, _, _, _, _ => none
  | k + 1, x0, x1, x5, x6, x7 => if x7 ≤ (x0.size : Int) then (offcutref01_Add.j1 k x0 x1 x5 x6 x7 true) else (offcutref01_Add.j1 k x0 x1 x5 x6 x7 (decide (x7 ≤ (x1.size : Int))))
def offcutref01_Add.j1 : Nat → ByteArray → ByteArray → ByteArray → Int → Int → Bool → Option (ByteArray)
  | 0, _, _, _, _, _, _ => none
  | k + 1, x0, x1, x5, x6, x7, x18 => if x18 = true then ((offcutref01_at.f x0 x7).bind fun t228 => ((offcutref01_at.f x1 x7).bind fun t229 => ((offcutref01_sign.f (Int.tmod (wrap64 ((wrap64 (t228 + t229)) + x6)) 10)).bind fun t230 => (if t230.size + x5.size ≤ 9223372036854775807 then (offcutref01_Add.l0 k x0 x1 (t230 ++ x5) (wrap64 (Int.tdiv (wrap64 ((wrap64 (t228 + t229)) + x6)) 10)) (wrap64 (x7 + 1))) else (none))))) else ((offcutref01_cut.f k x5).bind fun t231 => (some t231))
end
def offcutref01_Add.f (k : Nat) (a0 : ByteArray) (a1 : ByteArray) : Option (ByteArray) := offcutref01_Add.l0 k a0 a1 (⟨#[]⟩ : ByteArray) 0 0
theorem offcutref01_Add.mono_l : ∀ k, (∀ y0 y1 y2 y3 y4, LeO (offcutref01_Add.l0 k y0 y1 y2 y3 y4) (offcutref01_Add.l0 (k + 1) y0 y1 y2 y3 y4)) ∧ (∀ y0 y1 y2 y3 y4 y5, LeO (offcutref01_Add.j1 k y0 y1 y2 y3 y4 y5) (offcutref01_Add.j1 (k + 1) y0 y1 y2 y3 y4 y5))
  | 0 => ⟨fun _ _ _ _ _ r h => by simp [offcutref01_Add.l0] at h, fun _ _ _ _ _ _ r h => by simp [offcutref01_Add.j1] at h⟩
  | k + 1 => by
    obtain ⟨ih0, ih1⟩ := offcutref01_Add.mono_l k
    refine ⟨?_, ?_⟩
    · intro y0 y1 y2 y3 y4
      unfold offcutref01_Add.l0
      repeat' first
      | (with_reducible exact ih0 _ _ _ _ _)
      | (with_reducible exact ih1 _ _ _ _ _ _)
      | (with_reducible exact offcutref01_cut.mono _ _)
      | (with_reducible exact LeO.refl _)
      | (with_reducible exact LeO.none _)
      | (with_reducible refine LeO.ite ?_ ?_)
      | (with_reducible refine LeO.bind ?_ (fun _ => ?_))
      | exact ih0 _ _ _ _ _
      | exact ih1 _ _ _ _ _ _
      | exact offcutref01_cut.mono _ _
      | exact LeO.none _
      | refine LeO.ite ?_ ?_
      | refine LeO.bind ?_ (fun _ => ?_)
    · intro y0 y1 y2 y3 y4 y5
      unfold offcutref01_Add.j1
      repeat' first
      | (with_reducible exact ih0 _ _ _ _ _)
      | (with_reducible exact ih1 _ _ _ _ _ _)
      | (with_reducible exact offcutref01_cut.mono _ _)
      | (with_reducible exact LeO.refl _)
      | (with_reducible exact LeO.none _)
      | (with_reducible refine LeO.ite ?_ ?_)
      | (with_reducible refine LeO.bind ?_ (fun _ => ?_))
      | exact ih0 _ _ _ _ _
      | exact ih1 _ _ _ _ _ _
      | exact offcutref01_cut.mono _ _
      | exact LeO.none _
      | refine LeO.ite ?_ ?_
      | refine LeO.bind ?_ (fun _ => ?_)
theorem offcutref01_Add.mono : ∀ a0 a1 k, LeO (offcutref01_Add.f k a0 a1) (offcutref01_Add.f (k + 1) a0 a1) := by
  intro a0 a1 k
  obtain ⟨ih0, ih1⟩ := offcutref01_Add.mono_l k
  unfold offcutref01_Add.f
  repeat' first
      | (with_reducible exact ih0 _ _ _ _ _)
      | (with_reducible exact ih1 _ _ _ _ _ _)
      | (with_reducible exact offcutref01_cut.mono _ _)
      | (with_reducible exact LeO.refl _)
      | (with_reducible exact LeO.none _)
      | (with_reducible refine LeO.ite ?_ ?_)
      | (with_reducible refine LeO.bind ?_ (fun _ => ?_))
      | exact ih0 _ _ _ _ _
      | exact ih1 _ _ _ _ _ _
      | exact offcutref01_cut.mono _ _
      | exact LeO.none _
      | refine LeO.ite ?_ ?_
      | refine LeO.bind ?_ (fun _ => ?_)
set_option maxHeartbeats 8000000 in
set_option maxRecDepth 100000 in
theorem offcutref01_Add.calls (k : Nat) (a0 : ByteArray) (a1 : ByteArray) (r : ByteArray) (w : World) (h : offcutref01_Add.f k a0 a1 = some r) :
    Calls Try.prog 31 #[.string a0, .string a1] w fun e w' => e = .returned (.string r) ∧ Drawn0 w w' := by
  have H : (offcutref01_Add.l0 k a0 a1 (⟨#[]⟩ : ByteArray) 0 0) = some r := h
  clear h
  have H' := Aside0.mk H
  clear H
  go_enter Try.func31, Try.ntmps31
  go_wp2
  go_loopg [5, 6, 7] k (fun kq v5 v6 v7 w' => ∃ (x5_1 : ByteArray) (x6_1 : Int) (x7_1 : Int), v5 = .string x5_1 ∧ v6 = .int .i64 x6_1 ∧ v7 = .int .i64 x7_1 ∧ Aside0 (offcutref01_Add.l0 kq a0 a1 x5_1 x6_1 x7_1 = some r) ∧ Aside0 (kq ≤ k) ∧ Drawn0 w w')
  case atStart => exact ⟨((⟨#[]⟩ : ByteArray)), (0), (0), (by first | rfl | (simp; done) | (simp [*]; done)), (by first | rfl | (simp; done) | (simp [*]; done)), (by first | rfl | (simp; done) | (simp [*]; done)), H', ⟨Nat.le_refl _⟩, by repeat (first | exact Drawn0.refl _ | apply Drawn0.step)⟩
  case round =>
    clear H'
    try clear p2
    obtain ⟨x5_1, x6_1, x7_1, rfl, rfl, rfl, HA, HK1, ⟨m1, rfl⟩⟩ := hrel
    cases gk with
    | zero => exact absurd HA.out (by simp [offcutref01_Add.l0])
    | succ k1 =>
      have H := HA.out
      clear HA
      simp only [offcutref01_Add.l0] at H
      have HC3 := Aside0.mk H
      clear H
      go_upto_region 4 with (fail)
      go_cut [18] (fun v18 wc => ∃ (kq : Nat) (x18_2 : Bool), v18 = .bool x18_2 ∧ Aside0 (offcutref01_Add.j1 kq a0 a1 x5_1 x6_1 x7_1 x18_2 = some r) ∧ Aside0 (kq ≤ k1) ∧ Drawn0 w wc)
      case first =>
        have H := HC3.out
        clear HC3
        by_cases c4 : x7_1 ≤ (a0.size : Int)
        · rw [if_pos c4] at H
          have c4b0 : decide (x7_1 ≤ (a0.size : Int)) = true := decide_eq_true c4
          clear c4
          (first | rw [c4b0] | (simp only [i64_w, i32_w]; rw [c4b0]) | skip)
          have H' := Aside0.mk H
          clear H
          go_wp2
          go_meet
          case rel => exact ⟨_, (true), (by first | rfl | (simp; done) | (simp [*]; done)), H', ⟨by have := HK1.out; first | omega | exact Nat.le_refl _⟩, by repeat (first | exact Drawn0.refl _ | apply Drawn0.step)⟩
        · rw [if_neg c4] at H
          have c4b0 : decide (x7_1 ≤ (a0.size : Int)) = false := decide_eq_false c4
          clear c4
          (first | rw [c4b0] | (simp only [i64_w, i32_w]; rw [c4b0]) | skip)
          have H' := Aside0.mk H
          clear H
          go_wp2
          go_meet
          case rel => exact ⟨_, (decide (x7_1 ≤ (a1.size : Int))), (by first | rfl | (simp; done) | (simp [*]; done)), H', ⟨by have := HK1.out; first | omega | exact Nat.le_refl _⟩, by repeat (first | exact Drawn0.refl _ | apply Drawn0.step)⟩
      case rest =>
        clear HC3
        try clear p2
        try clear c3
        try clear c4
        try clear c4b0
        try clear p2
        obtain ⟨kq, x18_2, rfl, HA, HJ2, ⟨mc2, rfl⟩⟩ := hcut
        cases kq with
        | zero => exact absurd HA.out (by simp [offcutref01_Add.j1])
        | succ kj2 =>
          have H := HA.out
          clear HA
          simp only [offcutref01_Add.j1] at H
          by_cases c5 : x18_2 = true
          · subst c5
            have H1 : ((offcutref01_at.f a0 x7_1).bind fun t228 => ((offcutref01_at.f a1 x7_1).bind fun t229 => ((offcutref01_sign.f (Int.tmod (wrap64 ((wrap64 (t228 + t229)) + x6_1)) 10)).bind fun t230 => (if t230.size + x5_1.size ≤ 9223372036854775807 then (offcutref01_Add.l0 kj2 a0 a1 (t230 ++ x5_1) (wrap64 (Int.tdiv (wrap64 ((wrap64 (t228 + t229)) + x6_1)) 10)) (wrap64 (x7_1 + 1))) else (none))))) = some r := by rw [if_pos rfl] at H; exact H
            clear H
            have H := H1
            clear H1
            replace H := Option.bind_eq_some_iff.mp H
            obtain ⟨t228, A60, H⟩ := H
            replace H : ((offcutref01_at.f a1 x7_1).bind fun t229 => ((offcutref01_sign.f (Int.tmod (wrap64 ((wrap64 (t228 + t229)) + x6_1)) 10)).bind fun t230 => (if t230.size + x5_1.size ≤ 9223372036854775807 then (offcutref01_Add.l0 kj2 a0 a1 (t230 ++ x5_1) (wrap64 (Int.tdiv (wrap64 ((wrap64 (t228 + t229)) + x6_1)) 10)) (wrap64 (x7_1 + 1))) else (none)))) = some r := H
            have A6 := Aside0.mk A60
            clear A60
            replace H := Option.bind_eq_some_iff.mp H
            obtain ⟨t229, A70, H⟩ := H
            replace H : ((offcutref01_sign.f (Int.tmod (wrap64 ((wrap64 (t228 + t229)) + x6_1)) 10)).bind fun t230 => (if t230.size + x5_1.size ≤ 9223372036854775807 then (offcutref01_Add.l0 kj2 a0 a1 (t230 ++ x5_1) (wrap64 (Int.tdiv (wrap64 ((wrap64 (t228 + t229)) + x6_1)) 10)) (wrap64 (x7_1 + 1))) else (none))) = some r := H
            have A7 := Aside0.mk A70
            clear A70
            replace H := Option.bind_eq_some_iff.mp H
            obtain ⟨t230, A80, H⟩ := H
            replace H : (if t230.size + x5_1.size ≤ 9223372036854775807 then (offcutref01_Add.l0 kj2 a0 a1 (t230 ++ x5_1) (wrap64 (Int.tdiv (wrap64 ((wrap64 (t228 + t229)) + x6_1)) 10)) (wrap64 (x7_1 + 1))) else (none)) = some r := H
            have A8 := Aside0.mk A80
            clear A80
            by_cases c9 : t230.size + x5_1.size ≤ 9223372036854775807
            · rw [if_pos c9] at H
              have c9b0 := eq_true c9
              have c9b1 : decide (t230.size + x5_1.size ≤ 9223372036854775807) = true := decide_eq_true c9
              try have c9b2 : (9223372036854775807 < t230.size + x5_1.size) = False := eq_false (Nat.not_lt.2 c9)
              have H' := Aside0.mk H
              clear H
              go_wp2_with (first | ((with_reducible refine gate_callee (f := 42) rfl ?_); refine goesL_ (some 23) rfl rfl Try.func42 (by kernel_rfl) rfl #[.string a0, .int .i64 x7_1] rfl (by (try simp only [List.map_toArray, List.map_cons, List.map_nil]); first | done | rfl | (simp only [List.length_drop, List.length_take]; rfl)) ?_; (with_reducible refine (offcutref01_at.calls a0 x7_1 t228 _ A6.out).mono ?_); rintro e w' ⟨rfl, ⟨nd, rfl⟩⟩; refine ⟨_, rfl, ?_⟩) | ((with_reducible refine gate_callee (f := 42) rfl ?_); refine goesL_ (some 26) rfl rfl Try.func42 (by kernel_rfl) rfl #[.string a1, .int .i64 x7_1] rfl (by (try simp only [List.map_toArray, List.map_cons, List.map_nil]); first | done | rfl | (simp only [List.length_drop, List.length_take]; rfl)) ?_; (with_reducible refine (offcutref01_at.calls a1 x7_1 t229 _ A7.out).mono ?_); rintro e w' ⟨rfl, ⟨nd, rfl⟩⟩; refine ⟨_, rfl, ?_⟩) | ((with_reducible refine gate_callee (f := 36) rfl ?_); refine goesL_ (some 32) rfl rfl Try.func36 (by kernel_rfl) rfl #[.int .i64 (Int.tmod (wrap64 ((wrap64 (t228 + t229)) + x6_1)) 10)] rfl (by (try simp only [List.map_toArray, List.map_cons, List.map_nil]); first | done | rfl | (simp only [List.length_drop, List.length_take]; rfl)) ?_; (with_reducible refine (offcutref01_sign.calls (Int.tmod (wrap64 ((wrap64 (t228 + t229)) + x6_1)) 10) t230 _ A8.out).mono ?_); rintro e w' ⟨rfl, ⟨nd, rfl⟩⟩; refine ⟨_, rfl, ?_⟩))
              go_roundg kj2
              case measure => have := HK1.out; have := HJ2.out; omega
              case rel => exact ⟨(t230 ++ x5_1), (wrap64 (Int.tdiv (wrap64 ((wrap64 (t228 + t229)) + x6_1)) 10)), (wrap64 (x7_1 + 1)), (by first | rfl | (simp; done) | (simp [*]; done)), (by first | rfl | (simp; done) | (simp [*]; done)), (by first | rfl | (simp; done) | (simp [*]; done)), H', ⟨by have := HK1.out; have := HJ2.out; omega⟩, by repeat (first | exact Drawn0.refl _ | apply Drawn0.step)⟩
            · rw [if_neg c9] at H
              exact absurd H (by simp)
          · replace c5 := Bool.eq_false_iff.mpr c5
            subst c5
            have H1 : ((offcutref01_cut.f kj2 x5_1).bind fun t231 => (some t231)) = some r := by rw [if_neg (show ¬ (false = true) by decide)] at H; exact H
            clear H
            have H := H1
            clear H1
            replace H := Option.bind_eq_some_iff.mp H
            obtain ⟨t231, A100, H⟩ := H
            replace H : (some t231) = some r := H
            have A10 := Aside0.mk A100
            clear A100
            obtain rfl := Option.some.inj H
            go_wp2_with (first | ((with_reducible refine gate_callee (f := 37) rfl ?_); refine goesL_ (some 38) rfl rfl Try.func37 (by kernel_rfl) rfl #[.string x5_1] rfl (by (try simp only [List.map_toArray, List.map_cons, List.map_nil]); first | done | rfl | (simp only [List.length_drop, List.length_take]; rfl)) ?_; (with_reducible refine (offcutref01_cut.calls kj2 x5_1 t231 _ A10.out).mono ?_); rintro e w' ⟨rfl, ⟨nd, rfl⟩⟩; refine ⟨_, rfl, ?_⟩))
            go_ret
            exact ⟨by first | rfl | (simp; done) | (simp [*]; done), by repeat (first | exact Drawn0.refl _ | apply Drawn0.step)⟩

theorem offcutref01_Add.l0_eq (k : Nat) {a b : List Nat} (x5 : ByteArray) (x6 : Int) (j : Nat) : offcutref01_Add.l0 (k + 1) (Dec.tx a) (Dec.tx b) x5 x6 (j : Int) = offcutref01_Add.j1 k (Dec.tx a) (Dec.tx b) x5 x6 (j : Int) (decide (j ≤ a.length ∨ j ≤ b.length)) := by
  rw [offcutref01_Add.l0, Dec.tx_size, Dec.tx_size]
  by_cases h : j ≤ a.length
  · rw [if_pos (by omega), decide_eq_true (.inl h)]
  · rw [if_neg (by omega)]
    rw [show decide ((j : Int) ≤ (b.length : Int)) = decide (j ≤ a.length ∨ j ≤ b.length) from decide_eq_decide.2 (by omega)]
theorem offcutref01_Add.ev_l {a b : List Nat} (ha : Dec.Ds a) (hb : Dec.Ds b) (la : a.length < 1000000000) (lb : b.length < 1000000000) (d : Nat) : ∀ (out : List Nat) (c : Nat), out.length + d = max a.length b.length + 1 → Dec.Ds out → c ≤ 1 →
    Dec.dv (a.take out.length) + Dec.dv (b.take out.length) = Dec.dv out + 10 ^ out.length * c → Ev (fun k => offcutref01_Add.l0 k (Dec.tx a) (Dec.tx b) (Dec.tx out) (c : Int) (out.length : Int)) (Dec.dec (Dec.dv a + Dec.dv b)) := by
  induction d with
  | zero =>
    intro out c hd ho hc hv
    have h1 := Dec.dv_lt ha
    have h2 := Dec.dv_lt hb
    obtain ⟨m, hm⟩ : ∃ m, out.length = m + 1 := ⟨max a.length b.length, by omega⟩
    have h3 : 10 ^ a.length ≤ 10 ^ m := Nat.pow_le_pow_right (by omega) (by omega)
    have h4 : 10 ^ b.length ≤ 10 ^ m := Nat.pow_le_pow_right (by omega) (by omega)
    rw [List.take_of_length_le (by omega), List.take_of_length_le (by omega), hm, Nat.pow_succ] at hv
    have hc0 : c = 0 := by
      rcases Nat.eq_zero_or_pos c with h | h
      · exact h
      · obtain rfl : c = 1 := by omega
        omega
    subst hc0
    have hvv : Dec.dv out = Dec.dv a + Dec.dv b := by omega
    refine Ev.step (f := fun k => offcutref01_Add.j1 k (Dec.tx a) (Dec.tx b) (Dec.tx out) ((0 : Nat) : Int) (out.length : Int) false) (fun k => ?_) ?_
    · rw [offcutref01_Add.l0_eq, decide_eq_false (by omega)]
    · refine Ev.step (f := fun k => (offcutref01_cut.f k (Dec.tx out)).bind fun t => some t) (fun k => ?_) ?_
      · rw [offcutref01_Add.j1, if_neg (by simp)]
      · rw [← hvv]
        exact Ev.bind (offcutref01_cut.ev ho) (Ev.now _)
  | succ d ih =>
    intro out c hd ho hc hv
    have h1 := ha.getD out.length
    have h2 := hb.getD out.length
    obtain ⟨p, hp⟩ : ∃ p, p = a.getD out.length 0 := ⟨_, rfl⟩
    obtain ⟨q, hq⟩ : ∃ q, q = b.getD out.length 0 := ⟨_, rfl⟩
    refine Ev.step (f := fun k => offcutref01_Add.j1 k (Dec.tx a) (Dec.tx b) (Dec.tx out) (c : Int) (out.length : Int) true) (fun k => ?_) ?_
    · rw [offcutref01_Add.l0_eq, decide_eq_true (by omega)]
    · refine Ev.step (f := fun k => offcutref01_Add.l0 k (Dec.tx a) (Dec.tx b) (Dec.tx (out ++ [(p + q + c) % 10])) (((p + q + c) / 10 : Nat) : Int) ((out.length + 1 : Nat) : Int)) (fun k => ?_) ?_
      · rw [offcutref01_Add.j1, if_pos rfl, offcutref01_at.sem ha (by omega), offcutref01_at.sem hb (by omega), ← hp, ← hq]
        rw [Option.bind_some, Option.bind_some, Dec.w64a _ _ (by omega), Dec.w64a _ _ (by omega), Dec.tmod10, Dec.tdiv10, offcutref01_sign.sem _ (Nat.mod_lt _ (by omega)), Option.bind_some, Dec.tx_append, Dec.tx_size, Dec.tx_size, if_pos (by rw [List.length_singleton]; omega), Dec.w64n _ (by omega), Dec.w64s _ (by omega)]
      · have := ih (out ++ [(p + q + c) % 10]) ((p + q + c) / 10) (by rw [List.length_append, List.length_singleton]; omega) (ho.snoc (Nat.mod_lt _ (by omega))) (by omega) (by
          rw [List.length_append, List.length_singleton, Dec.dv_take_succ, Dec.dv_take_succ, ← hp, ← hq, Dec.dv_snoc, Nat.pow_succ]
          have h3 : 10 ^ out.length * (p + q + c) = 10 ^ out.length * ((p + q + c) % 10 + 10 * ((p + q + c) / 10)) := by congr 1; omega
          rw [Nat.mul_add, Nat.mul_add, Nat.mul_add, ← Nat.mul_assoc] at h3
          omega)
        rw [List.length_append, List.length_singleton] at this
        exact this
theorem offcutref01_Add.ev {a b : List Nat} (ha : Dec.Ds a) (hb : Dec.Ds b) (la : a.length < 1000000000) (lb : b.length < 1000000000) : Ev (fun k => offcutref01_Add.f k (Dec.tx a) (Dec.tx b)) (Dec.dec (Dec.dv a + Dec.dv b)) :=
  offcutref01_Add.ev_l ha hb la lb (max a.length b.length + 1) [] 0 (by rw [List.length_nil]; omega) Dec.Ds.nil (by omega) (by rw [List.length_nil, List.take_zero, List.take_zero]; rfl)

end Go.Proofs.Ytmodmjeibbgdgaa.PR

end
section
-- PRINTED by print.py (a twelfth state) out of the translation. Not trusted: Lean checks it.
namespace Go.Proofs.Ytmodmjeibbgdgaa.PR
open Go.RowKit Go.Proofs.YtmodmjeibbgdgaaW.PrintWords Go.Proofs.YtmodmjeibbgdgaaW.PrintLast Go.Proofs.YtmodmjeibbgdgaaW.PrintMore
attribute [local go_sem] max2_int min2_int max_two min_two max_three min_three max_four min_four   -- for this text's walks alone
set_option linter.unusedVariables false
set_option linter.unusedSimpArgs false

/-! ### offcutref01_Of: function 14 -/
mutual
def offcutref01_Of.l0 : Nat → List Int → ByteArray → Int → Option (ByteArray)
  | 0, _, _, _ => none
  | k + 1, x0, x3, x4 => if x4 ≥ 0 then ((offcutref01_Mul.f k x3 (⟨#[52, 50, 57, 52, 57, 54, 55, 50, 57, 54]⟩ : ByteArray)).bind fun t232 => (if 0 ≤ x4 then (if x4 < (x0.length : Int) then (offcutref01_Of.l1 k x0 t232 x4 (rd x0 x4) (⟨#[]⟩ : ByteArray)) else (none)) else (none))) else (some x3)
def offcutref01_Of.l1 : Nat → List Int → ByteArray → Int → Int → ByteArray → Option (ByteArray)
  | 0, _, _, _, _, _ => none
  | k + 1, x0, x3, x4, x5, x6 => if x5 > 0 then ((offcutref01_sign.f (wrap64 (Int.tmod x5 10))).bind fun t234 => (if t234.size + x6.size ≤ 9223372036854775807 then (offcutref01_Of.l1 k x0 x3 x4 ((Int.tdiv x5 10) % 4294967296) (t234 ++ x6)) else (none))) else ((offcutref01_cut.f k x6).bind fun t235 => ((offcutref01_Add.f k x3 t235).bind fun t236 => (offcutref01_Of.l0 k x0 t236 (wrap64 (x4 - 1)))))
end
def offcutref01_Of.f (k : Nat) (l0 : List Int) : Option (ByteArray) := offcutref01_Of.l0 k l0 (⟨#[48]⟩ : ByteArray) (wrap64 ((l0.length : Int) - 1))
theorem offcutref01_Of.mono_l : ∀ k, (∀ y0 y1 y2, LeO (offcutref01_Of.l0 k y0 y1 y2) (offcutref01_Of.l0 (k + 1) y0 y1 y2)) ∧ (∀ y0 y1 y2 y3 y4, LeO (offcutref01_Of.l1 k y0 y1 y2 y3 y4) (offcutref01_Of.l1 (k + 1) y0 y1 y2 y3 y4))
  | 0 => ⟨fun _ _ _ r h => by simp [offcutref01_Of.l0] at h, fun _ _ _ _ _ r h => by simp [offcutref01_Of.l1] at h⟩
  | k + 1 => by
    obtain ⟨ih0, ih1⟩ := offcutref01_Of.mono_l k
    refine ⟨?_, ?_⟩
    · intro y0 y1 y2
      unfold offcutref01_Of.l0
      repeat' first
      | (with_reducible exact ih0 _ _ _)
      | (with_reducible exact ih1 _ _ _ _ _)
      | (with_reducible exact offcutref01_Add.mono _ _ _)
      | (with_reducible exact offcutref01_Mul.mono _ _ _)
      | (with_reducible exact offcutref01_cut.mono _ _)
      | (with_reducible exact LeO.refl _)
      | (with_reducible exact LeO.none _)
      | (with_reducible refine LeO.ite ?_ ?_)
      | (with_reducible refine LeO.bind ?_ (fun _ => ?_))
      | exact ih0 _ _ _
      | exact ih1 _ _ _ _ _
      | exact offcutref01_Add.mono _ _ _
      | exact offcutref01_Mul.mono _ _ _
      | exact offcutref01_cut.mono _ _
      | exact LeO.none _
      | refine LeO.ite ?_ ?_
      | refine LeO.bind ?_ (fun _ => ?_)
    · intro y0 y1 y2 y3 y4
      unfold offcutref01_Of.l1
      repeat' first
      | (with_reducible exact ih0 _ _ _)
      | (with_reducible exact ih1 _ _ _ _ _)
      | (with_reducible exact offcutref01_Add.mono _ _ _)
      | (with_reducible exact offcutref01_Mul.mono _ _ _)
      | (with_reducible exact offcutref01_cut.mono _ _)
      | (with_reducible exact LeO.refl _)
      | (with_reducible exact LeO.none _)
      | (with_reducible refine LeO.ite ?_ ?_)
      | (with_reducible refine LeO.bind ?_ (fun _ => ?_))
      | exact ih0 _ _ _
      | exact ih1 _ _ _ _ _
      | exact offcutref01_Add.mono _ _ _
      | exact offcutref01_Mul.mono _ _ _
      | exact offcutref01_cut.mono _ _
      | exact LeO.none _
      | refine LeO.ite ?_ ?_
      | refine LeO.bind ?_ (fun _ => ?_)
theorem offcutref01_Of.mono : ∀ a0 k, LeO (offcutref01_Of.f k a0) (offcutref01_Of.f (k + 1) a0) := by
  intro a0 k
  obtain ⟨ih0, ih1⟩ := offcutref01_Of.mono_l k
  unfold offcutref01_Of.f
  repeat' first
      | (with_reducible exact ih0 _ _ _)
      | (with_reducible exact ih1 _ _ _ _ _)
      | (with_reducible exact offcutref01_Add.mono _ _ _)
      | (with_reducible exact offcutref01_Mul.mono _ _ _)
      | (with_reducible exact offcutref01_cut.mono _ _)
      | (with_reducible exact LeO.refl _)
      | (with_reducible exact LeO.none _)
      | (with_reducible refine LeO.ite ?_ ?_)
      | (with_reducible refine LeO.bind ?_ (fun _ => ?_))
      | exact ih0 _ _ _
      | exact ih1 _ _ _ _ _
      | exact offcutref01_Add.mono _ _ _
      | exact offcutref01_Mul.mono _ _ _
      | exact offcutref01_cut.mono _ _
      | exact LeO.none _
      | refine LeO.ite ?_ ?_
      | refine LeO.bind ?_ (fun _ => ?_)
set_option maxHeartbeats 8000000 in
set_option maxRecDepth 100000 in
theorem offcutref01_Of.calls (k : Nat) (A0 : Option Addr) (c0 : Nat) (l0 : List Int) (r : ByteArray) (w : World) (hr0 : Kd.C (Kd.int .u32) w A0 l0.length l0) (hc0 : l0.length ≤ c0) (h : offcutref01_Of.f k l0 = some r) :
    Calls Try.prog 14 #[.slice A0 l0.length c0] w fun e w' => e = .returned (.string r) ∧ Below w.heap.size w w' := by
  have HR0 := Aside0.mk hr0
  have HC0 := Aside0.mk hc0
  clear hr0 hc0
  have HB := Aside0.mk (Below.refl w.heap.size w)
  have H : (offcutref01_Of.l0 k l0 (⟨#[48]⟩ : ByteArray) (wrap64 ((l0.length : Int) - 1))) = some r := h
  clear h
  have H' := Aside0.mk H
  clear H
  go_enter Try.func14, Try.ntmps14
  go_wp2
  go_loopg [3, 4] k (fun kq v3 v4 w' => ∃ (x3_1 : ByteArray) (x4_1 : Int), v3 = .string x3_1 ∧ v4 = .int .i64 x4_1 ∧ Aside0 (offcutref01_Of.l0 kq l0 x3_1 x4_1 = some r) ∧ Aside0 (kq ≤ k) ∧ Aside0 (Below w.heap.size w w'))
  case atStart => exact ⟨((⟨#[48]⟩ : ByteArray)), (wrap64 ((l0.length : Int) - 1)), (by first | rfl | (simp; done) | (simp [*]; done)), (by first | rfl | (simp; done) | (simp [*]; done)), H', ⟨Nat.le_refl _⟩, ⟨by repeat (first | (with_reducible first | exact HB.out | apply below_alloc | apply pw_below_drewN | apply below_drew1) | exact HB.out)⟩⟩
  case round =>
    clear H'
    try clear c1
    obtain ⟨x3_1, x4_1, rfl, rfl, HA, HK1, HB⟩ := hrel
    cases gk with
    | zero => exact absurd HA.out (by simp [offcutref01_Of.l0])
    | succ k1 =>
      have H := HA.out
      clear HA
      simp only [offcutref01_Of.l0] at H
      by_cases c2 : x4_1 ≥ 0
      · rw [if_pos c2] at H
        have c2b0 : decide (0 ≤ x4_1) = true := decide_eq_true c2
        clear c2
        replace H := Option.bind_eq_some_iff.mp H
        obtain ⟨t232, A30, H⟩ := H
        replace H : (if 0 ≤ x4_1 then (if x4_1 < (l0.length : Int) then (offcutref01_Of.l1 k1 l0 t232 x4_1 (rd l0 x4_1) (⟨#[]⟩ : ByteArray)) else (none)) else (none)) = some r := H
        have A3 := Aside0.mk A30
        clear A30
        by_cases c4 : 0 ≤ x4_1
        · rw [if_pos c4] at H
          have c4b0 : decide (0 ≤ x4_1) = true := decide_eq_true c4
          clear c4
          by_cases c5 : x4_1 < (l0.length : Int)
          · rw [if_pos c5] at H
            have c5b0 : decide (x4_1 < (l0.length : Int)) = true := decide_eq_true c5
            clear c5
            have H' := Aside0.mk H
            clear H
            go_wp2_with (first | ((with_reducible refine gate_callee (f := 27) rfl ?_); refine goesL_ (some 15) rfl rfl Try.func27 (by kernel_rfl) rfl #[.string x3_1, .string (⟨#[52, 50, 57, 52, 57, 54, 55, 50, 57, 54]⟩ : ByteArray)] rfl (by (try simp only [List.map_toArray, List.map_cons, List.map_nil]); first | done | rfl | (simp only [List.length_drop, List.length_take]; rfl)) ?_; (with_reducible refine (offcutref01_Mul.calls k1 x3_1 (⟨#[52, 50, 57, 52, 57, 54, 55, 50, 57, 54]⟩ : ByteArray) t232 _ A3.out).mono ?_); rintro e w6 ⟨rfl, hb⟩; refine ⟨_, rfl, ?_⟩; have n0_ := Aside0.mk (below_step (by repeat (first | (with_reducible first | exact HB.out | apply below_alloc | apply pw_below_drewN | apply below_drew1) | exact HB.out)) hb); clear HB; have HB := n0_; clear n0_; (try clear hb); (try clear hb2); (try clear hk); (try clear hi); have p233 : 0 ≤ (x4_1 : Int) := of_decide_eq_true (by first | (with_reducible assumption) | assumption); have q233 : x4_1 < (l0.length : Int) := of_decide_eq_true (by first | (with_reducible assumption) | assumption); obtain ⟨ad233, e233, hx233_0⟩ := Kd.at_int HR0.out x4_1 p233 q233; cases e233; replace hx233_0 := (HB.out.cell (World.block_lt_of_cell? w _ hx233_0)).trans hx233_0; replace p233 := eq_true p233; replace q233 := eq_true q233))
            go_loopg [5, 6] k1 (fun kq v5 v6 w' => ∃ (x5_2 : Int) (x6_2 : ByteArray), v5 = .int .u32 x5_2 ∧ v6 = .string x6_2 ∧ Aside0 (offcutref01_Of.l1 kq l0 t232 x4_1 x5_2 x6_2 = some r) ∧ Aside0 (kq ≤ k1) ∧ Aside0 (Below w.heap.size w w'))
            case atStart => exact ⟨(rd l0 x4_1), ((⟨#[]⟩ : ByteArray)), (by first | rfl | (simp; done) | (simp [*]; done)), (by first | rfl | (simp; done) | (simp [*]; done)), H', ⟨Nat.le_refl _⟩, ⟨by repeat (first | (with_reducible first | exact HB.out | apply below_alloc | apply pw_below_drewN | apply below_drew1) | exact HB.out)⟩⟩
            case round =>
              clear H'
              try clear c1
              try clear c2
              try clear c2b0
              try clear p2
              try clear q2
              try clear hx2
              try clear c4
              try clear c4b0
              try clear c5
              try clear c5b0
              try clear p6
              try clear hx233_0
              try clear p233
              try clear q233
              obtain ⟨x5_2, x6_2, rfl, rfl, HA, HK2, HB⟩ := hrel
              cases gk with
              | zero => exact absurd HA.out (by simp [offcutref01_Of.l1])
              | succ k2 =>
                have H := HA.out
                clear HA
                simp only [offcutref01_Of.l1] at H
                by_cases c7 : x5_2 > 0
                · rw [if_pos c7] at H
                  have c7b0 : decide (0 < x5_2) = true := decide_eq_true c7
                  clear c7
                  replace H := Option.bind_eq_some_iff.mp H
                  obtain ⟨t234, A80, H⟩ := H
                  replace H : (if t234.size + x6_2.size ≤ 9223372036854775807 then (offcutref01_Of.l1 k2 l0 t232 x4_1 ((Int.tdiv x5_2 10) % 4294967296) (t234 ++ x6_2)) else (none)) = some r := H
                  have A8 := Aside0.mk A80
                  clear A80
                  by_cases c9 : t234.size + x6_2.size ≤ 9223372036854775807
                  · rw [if_pos c9] at H
                    have c9b0 := eq_true c9
                    have c9b1 : decide (t234.size + x6_2.size ≤ 9223372036854775807) = true := decide_eq_true c9
                    try have c9b2 : (9223372036854775807 < t234.size + x6_2.size) = False := eq_false (Nat.not_lt.2 c9)
                    have H' := Aside0.mk H
                    clear H
                    go_wp2_with (first | ((with_reducible refine gate_callee (f := 36) rfl ?_); refine goesL_ (some 25) rfl rfl Try.func36 (by kernel_rfl) rfl #[.int .i64 (wrap64 (Int.tmod x5_2 10))] rfl (by (try simp only [List.map_toArray, List.map_cons, List.map_nil]); first | done | rfl | (simp only [List.length_drop, List.length_take]; rfl)) ?_; (with_reducible refine (offcutref01_sign.calls (wrap64 (Int.tmod x5_2 10)) t234 _ A8.out).mono ?_); rintro e w' ⟨rfl, ⟨nd, rfl⟩⟩; refine ⟨_, rfl, ?_⟩))
                    go_roundg k2
                    case measure => have := HK1.out; have := HK2.out; omega
                    case rel => exact ⟨((Int.tdiv x5_2 10) % 4294967296), (t234 ++ x6_2), (by first | rfl | (simp; done) | (simp [*]; done)), (by first | rfl | (simp; done) | (simp [*]; done)), H', ⟨by have := HK1.out; have := HK2.out; omega⟩, ⟨by repeat (first | (with_reducible first | exact HB.out | apply below_alloc | apply pw_below_drewN | apply below_drew1) | exact HB.out)⟩⟩
                  · rw [if_neg c9] at H
                    exact absurd H (by simp)
                · rw [if_neg c7] at H
                  have c7b0 : decide (0 < x5_2) = false := decide_eq_false c7
                  clear c7
                  replace H := Option.bind_eq_some_iff.mp H
                  obtain ⟨t235, A100, H⟩ := H
                  replace H : ((offcutref01_Add.f k2 t232 t235).bind fun t236 => (offcutref01_Of.l0 k2 l0 t236 (wrap64 (x4_1 - 1)))) = some r := H
                  have A10 := Aside0.mk A100
                  clear A100
                  replace H := Option.bind_eq_some_iff.mp H
                  obtain ⟨t236, A110, H⟩ := H
                  replace H : (offcutref01_Of.l0 k2 l0 t236 (wrap64 (x4_1 - 1))) = some r := H
                  have A11 := Aside0.mk A110
                  clear A110
                  have H' := Aside0.mk H
                  clear H
                  go_wp2_with (first | ((with_reducible refine gate_callee (f := 37) rfl ?_); refine goesL_ (some 32) rfl rfl Try.func37 (by kernel_rfl) rfl #[.string x6_2] rfl (by (try simp only [List.map_toArray, List.map_cons, List.map_nil]); first | done | rfl | (simp only [List.length_drop, List.length_take]; rfl)) ?_; (with_reducible refine (offcutref01_cut.calls k2 x6_2 t235 _ A10.out).mono ?_); rintro e w' ⟨rfl, ⟨nd, rfl⟩⟩; refine ⟨_, rfl, ?_⟩) | ((with_reducible refine gate_callee (f := 31) rfl ?_); refine goesL_ (some 33) rfl rfl Try.func31 (by kernel_rfl) rfl #[.string t232, .string t235] rfl (by (try simp only [List.map_toArray, List.map_cons, List.map_nil]); first | done | rfl | (simp only [List.length_drop, List.length_take]; rfl)) ?_; (with_reducible refine (offcutref01_Add.calls k2 t232 t235 t236 _ A11.out).mono ?_); rintro e w' ⟨rfl, ⟨nd, rfl⟩⟩; refine ⟨_, rfl, ?_⟩))
                  go_roundg k2
                  case measure => have := HK1.out; have := HK2.out; omega
                  case rel => exact ⟨(t236), (wrap64 (x4_1 - 1)), (by first | rfl | (simp; done) | (simp [*]; done)), (by first | rfl | (simp; done) | (simp [*]; done)), H', ⟨by have := HK1.out; have := HK2.out; omega⟩, ⟨by repeat (first | (with_reducible first | exact HB.out | apply below_alloc | apply pw_below_drewN | apply below_drew1) | exact HB.out)⟩⟩
          · rw [if_neg c5] at H
            exact absurd H (by simp)
        · rw [if_neg c4] at H
          exact absurd H (by simp)
      · rw [if_neg c2] at H
        have c2b0 : decide (0 ≤ x4_1) = false := decide_eq_false c2
        clear c2
        obtain rfl := Option.some.inj H
        go_wp2
        go_ret
        exact ⟨by first | rfl | (simp [errW_none, errW_some] <;> rfl) | (simp [*, errW_none, errW_some] <;> rfl), by repeat (first | (with_reducible first | exact HB.out | apply below_alloc | apply pw_below_drewN | apply below_drew1) | exact HB.out)⟩

/-- One word's digits; then what follows. -/
theorem offcutref01_Of.ev_w {l : List Int} {r : ByteArray} {M u : Nat} {i : Int} (hM : (Dec.dc M).length < 1000000000) (hu : u < 10000000000)
    (next : Ev (fun k => offcutref01_Of.l0 k l (Dec.dec (M + u)) (wrap64 (i - 1))) r) (d : Nat) : ∀ (n : Nat) (out : List Nat), n < 10 ^ d → out.length + d ≤ 10 → Dec.Ds out → Dec.dv out + 10 ^ out.length * n = u →
    Ev (fun k => offcutref01_Of.l1 k l (Dec.dec M) i (n : Int) (Dec.tx out)) r := by
  have stop : ∀ out : List Nat, Dec.Ds out → Dec.dv out = u → Ev (fun k => offcutref01_Of.l1 k l (Dec.dec M) i ((0 : Nat) : Int) (Dec.tx out)) r := by
    intro out ho hv
    refine Ev.step (f := fun k => (offcutref01_cut.f k (Dec.tx out)).bind fun t235 => ((offcutref01_Add.f k (Dec.dec M) t235).bind fun t236 => (offcutref01_Of.l0 k l t236 (wrap64 (i - 1))))) (fun k => ?_) ?_
    · rw [offcutref01_Of.l1, if_neg (by omega)]
    · refine Ev.bind (offcutref01_cut.ev ho) ?_
      rw [hv]
      have := offcutref01_Add.ev (Dec.Ds_dc M) (Dec.Ds_dc u) hM (Nat.lt_of_le_of_lt (Dec.dc_length_le (k := 10) (by omega) (by omega)) (by omega))
      rw [Dec.dv_dc, Dec.dv_dc] at this
      exact Ev.bind this next
  induction d with
  | zero =>
    intro n out hn hl ho hv
    obtain rfl : n = 0 := by rw [Nat.pow_zero] at hn; omega
    exact stop out ho (by omega)
  | succ d ih =>
    intro n out hn hl ho hv
    rcases Nat.eq_zero_or_pos n with h0 | h0
    · subst h0
      exact stop out ho (by omega)
    · have hnu : n < 10 ^ 10 := Nat.lt_of_lt_of_le hn (Nat.pow_le_pow_right (by omega) (by omega))
      have hnv : n < 10000000000 := hnu
      refine Ev.step (f := fun k => offcutref01_Of.l1 k l (Dec.dec M) i ((n / 10 : Nat) : Int) (Dec.tx (out ++ [n % 10]))) (fun k => ?_) ?_
      · rw [offcutref01_Of.l1, if_pos (by omega), Dec.tmod10, Dec.tdiv10, Dec.w64n _ (by omega), offcutref01_sign.sem _ (Nat.mod_lt _ (by omega)), Option.bind_some, Dec.tx_append, Dec.tx_size, Dec.tx_size, if_pos (by rw [List.length_singleton]; omega), show ((n / 10 : Nat) : Int) % 4294967296 = ((n / 10 : Nat) : Int) from by omega]
      · refine ih (n / 10) (out ++ [n % 10]) (by rw [Nat.pow_succ] at hn; omega) (by rw [List.length_append, List.length_singleton]; omega) (ho.snoc (Nat.mod_lt _ (by omega))) ?_
        rw [Dec.dv_snoc, List.length_append, List.length_singleton, Nat.pow_succ, ← hv]
        have h3 : 10 ^ out.length * n = 10 ^ out.length * (n % 10 + 10 * (n / 10)) := by congr 1; omega
        rw [Nat.mul_add, ← Nat.mul_assoc] at h3
        omega
theorem offcutref01_Of.ev_l {l : List Int} (hW : Num.Ws l) (hl : l.length < 10000000) : ∀ i, i ≤ l.length → Ev (fun k => offcutref01_Of.l0 k l (Dec.dec (Num.nv (l.drop i))) ((i : Int) - 1)) (Dec.dec (Num.nv l)) := by
  intro i
  induction i with
  | zero =>
    intro hi
    refine Ev.step (f := fun _ => some (Dec.dec (Num.nv (l.drop 0)))) (fun k => ?_) ?_
    · rw [offcutref01_Of.l0, if_neg (by omega)]
    · rw [List.drop_zero]
      exact Ev.now _
  | succ i ih =>
    intro hi
    have hb := Num.nv_lt (hW.drop (i + 1))
    rw [List.length_drop] at hb
    have hb2 : Num.nv (l.drop (i + 1)) < 2 ^ (32 * l.length) := Nat.lt_of_lt_of_le hb (Nat.pow_le_pow_right (by omega) (by omega))
    have hl1 := Dec.dc_len32 (by omega) hb2
    have hb3 : Num.nv (l.drop (i + 1)) * 4294967296 < 2 ^ (32 * (l.length + 1)) := by
      rw [Num.pow_succ32]
      exact Nat.mul_lt_mul_of_pos_right hb2 (by omega)
    have hl2 := Dec.dc_len32 (by omega) hb3
    have hw := hW.getD i
    obtain ⟨u, hu⟩ : ∃ u : Nat, (u : Int) = l.getD i 0 := ⟨(l.getD i 0).toNat, by omega⟩
    have hd : Num.nv (l.drop i) = Num.nv (l.drop (i + 1)) * 4294967296 + u := by
      rw [List.drop_eq_getElem_cons (by omega), Num.nv]
      have : l[i] = (u : Int) := by rw [hu, List.getD_eq_getElem?_getD, List.getElem?_eq_getElem (by omega)]; rfl
      rw [this, Int.toNat_natCast]
      omega
    have hm := offcutref01_Mul.ev (Dec.Ds_dc (Num.nv (l.drop (i + 1)))) Dec.Ds_2_32 (by omega) (by decide)
    rw [Dec.dv_dc, show Dec.dv [6, 9, 2, 7, 6, 9, 4, 9, 2, 4] = 4294967296 from rfl] at hm
    refine Ev.step (f := fun k => (offcutref01_Mul.f k (Dec.tx (Dec.dc (Num.nv (l.drop (i + 1))))) (Dec.tx [6, 9, 2, 7, 6, 9, 4, 9, 2, 4])).bind fun t232 => (offcutref01_Of.l1 k l t232 (i : Int) (u : Int) (Dec.tx []))) (fun k => ?_) (Ev.bind hm ?_)
    · rw [offcutref01_Of.l0, show (((i + 1 : Nat) : Int) - 1) = (i : Int) from by omega, if_pos (by omega)]
      refine congrArg _ (funext fun t232 => ?_)
      rw [if_pos (by omega), if_pos (by omega), show rd l (i : Int) = (u : Int) from by rw [hu]; simp [rd]]
      rfl
    · refine offcutref01_Of.ev_w (u := u) (by omega) (by omega) ?_ 10 u [] (by omega) (by decide) Dec.Ds.nil (by rw [List.length_nil, Dec.dv]; omega)
      rw [Dec.w64 (by omega) (by omega), ← hd]
      exact ih (by omega)
theorem offcutref01_Of.ev {l : List Int} (hW : Num.Ws l) (hl : l.length < 10000000) : Ev (fun k => offcutref01_Of.f k l) (Dec.dec (Num.nv l)) := by
  have := offcutref01_Of.ev_l hW hl l.length (Nat.le_refl _)
  rw [List.drop_length, Num.nv, Dec.dec_zero] at this
  refine Ev.congr (fun k => ?_) this
  unfold offcutref01_Of.f
  rw [Dec.w64 (by omega) (by omega)]

end Go.Proofs.Ytmodmjeibbgdgaa.PR

end
section
-- PRINTED by print.py (a twelfth state) out of the translation. Not trusted: Lean checks it.
namespace Go.Proofs.Ytmodmjeibbgdgaa.PR
open Go.RowKit Go.Proofs.YtmodmjeibbgdgaaW.PrintWords Go.Proofs.YtmodmjeibbgdgaaW.PrintLast Go.Proofs.YtmodmjeibbgdgaaW.PrintMore
attribute [local go_sem] max2_int min2_int max_two min_two max_three min_three max_four min_four   -- for this text's walks alone
set_option linter.unusedVariables false
set_option linter.unusedSimpArgs false

/-! ### offcutref01_Less: function 15 -/
def offcutref01_Less.f (a0 : ByteArray) (a1 : ByteArray) : Option (Bool) := if (a0.size : Int) = (a1.size : Int) then (some (Op.bytesLess a0.toList a1.toList)) else (some (decide ((a0.size : Int) < (a1.size : Int))))
set_option maxHeartbeats 8000000 in
set_option maxRecDepth 100000 in
theorem offcutref01_Less.calls (a0 : ByteArray) (a1 : ByteArray) (r : Bool) (w : World) (h : offcutref01_Less.f a0 a1 = some r) :
    Calls Try.prog 15 #[.string a0, .string a1] w fun e w' => e = .returned (.bool r) ∧ Drawn0 w w' := by
  have H : (if (a0.size : Int) = (a1.size : Int) then (some (Op.bytesLess a0.toList a1.toList)) else (some (decide ((a0.size : Int) < (a1.size : Int))))) = some r := h
  clear h
  by_cases c3 : (a0.size : Int) = (a1.size : Int)
  · rw [if_pos c3] at H
    have c3b0 : ((a0.size : Int) == (a1.size : Int)) = true := beq_iff_eq.mpr c3
    have c3b1 : ((a0.size : Int) != (a1.size : Int)) = false := bne_eq_false_iff_eq.mpr c3
    have c3b2 : (a0.size == a1.size) = true := by first | simpa using c3 | (simp at c3 ⊢; omega)
    clear c3
    obtain rfl := Option.some.inj H
    go_enter Try.func15, Try.ntmps15
    go_wp2
    go_ret
    exact ⟨by first | rfl | (simp; done) | (simp [*]; done), by repeat (first | exact Drawn0.refl _ | apply Drawn0.step)⟩
  · rw [if_neg c3] at H
    have c3b0 : ((a0.size : Int) == (a1.size : Int)) = false := beq_eq_false_iff_ne.mpr c3
    have c3b1 : ((a0.size : Int) != (a1.size : Int)) = true := bne_iff_ne.mpr c3
    have c3b2 : (a0.size == a1.size) = false := by first | simpa using c3 | (simp at c3 ⊢; omega)
    obtain rfl := Option.some.inj H
    go_enter Try.func15, Try.ntmps15
    go_wp2
    go_ret
    exact ⟨by first | rfl | (simp; done) | (simp [*]; done), by repeat (first | exact Drawn0.refl _ | apply Drawn0.step)⟩

theorem offcutref01_Less.sem (m n : Nat) : offcutref01_Less.f (Dec.dec m) (Dec.dec n) = some (decide (m < n)) := by
  unfold offcutref01_Less.f
  by_cases h : (Dec.dec m).size = (Dec.dec n).size
  · rw [if_pos (by omega), Dec.less_dec m n h]
  · rw [if_neg (by omega)]
    congr 1
    unfold Dec.dec at h ⊢
    rw [Dec.tx_size, Dec.tx_size] at h ⊢
    rcases Nat.lt_or_ge (Dec.dc m).length (Dec.dc n).length with h1 | h1
    · rw [decide_eq_true (Dec.dc_len_lt h1), decide_eq_true (by omega)]
    · have := Dec.dc_len_lt (m := n) (n := m) (by omega)
      rw [decide_eq_false (by omega), decide_eq_false (by omega)]

end Go.Proofs.Ytmodmjeibbgdgaa.PR

end
section
-- PRINTED by print.py (a twelfth state) out of the translation. Not trusted: Lean checks it.
namespace Go.Proofs.Ytmodmjeibbgdgaa.PR
open Go.RowKit Go.Proofs.YtmodmjeibbgdgaaW.PrintWords Go.Proofs.YtmodmjeibbgdgaaW.PrintLast Go.Proofs.YtmodmjeibbgdgaaW.PrintMore
attribute [local go_sem] max2_int min2_int max_two min_two max_three min_three max_four min_four   -- for this text's walks alone
set_option linter.unusedVariables false
set_option linter.unusedSimpArgs false

/-! ### offcutlaw01_is: function 17 -/
def offcutlaw01_is.f (k : Nat) (l0 : List Int) (a1 : ByteArray) : Option (Bool) := (nat_Right.f l0).bind fun t237 => (if t237 = true then ((offcutref01_Of.f k l0).bind fun t238 => (some (t238.toList == a1.toList))) else (some false))
theorem offcutlaw01_is.mono : ∀ a0 a1 k, LeO (offcutlaw01_is.f k a0 a1) (offcutlaw01_is.f (k + 1) a0 a1) := by
  intro a0 a1 k
  unfold offcutlaw01_is.f
  repeat' first
      | (with_reducible exact offcutref01_Of.mono _ _)
      | (with_reducible exact LeO.refl _)
      | (with_reducible exact LeO.none _)
      | (with_reducible refine LeO.ite ?_ ?_)
      | (with_reducible refine LeO.bind ?_ (fun _ => ?_))
      | exact offcutref01_Of.mono _ _
      | exact LeO.none _
      | refine LeO.ite ?_ ?_
      | refine LeO.bind ?_ (fun _ => ?_)
set_option maxHeartbeats 8000000 in
set_option maxRecDepth 100000 in
theorem offcutlaw01_is.calls (k : Nat) (A0 : Option Addr) (c0 : Nat) (l0 : List Int) (a1 : ByteArray) (r : Bool) (w : World) (hr0 : Kd.C (Kd.int .u32) w A0 l0.length l0) (hc0 : l0.length ≤ c0) (h : offcutlaw01_is.f k l0 a1 = some r) :
    Calls Try.prog 17 #[.slice A0 l0.length c0, .string a1] w fun e w' => e = .returned (.bool r) ∧ Below w.heap.size w w' := by
  have HR0 := Aside0.mk hr0
  have HC0 := Aside0.mk hc0
  clear hr0 hc0
  have HB := Aside0.mk (Below.refl w.heap.size w)
  have H : ((nat_Right.f l0).bind fun t237 => (if t237 = true then ((offcutref01_Of.f k l0).bind fun t238 => (some (t238.toList == a1.toList))) else (some false))) = some r := h
  clear h
  replace H := Option.bind_eq_some_iff.mp H
  obtain ⟨t237, A30, H⟩ := H
  replace H : (if t237 = true then ((offcutref01_Of.f k l0).bind fun t238 => (some (t238.toList == a1.toList))) else (some false)) = some r := H
  have A3 := Aside0.mk A30
  clear A30
  by_cases c4 : t237 = true
  · subst c4
    have H1 : ((offcutref01_Of.f k l0).bind fun t238 => (some (t238.toList == a1.toList))) = some r := by rw [if_pos rfl] at H; exact H
    clear H
    have H := H1
    clear H1
    replace H := Option.bind_eq_some_iff.mp H
    obtain ⟨t238, A50, H⟩ := H
    replace H : (some (t238.toList == a1.toList)) = some r := H
    have A5 := Aside0.mk A50
    clear A50
    obtain rfl := Option.some.inj H
    go_enter Try.func17, Try.ntmps17
    go_wp2_with (first | ((with_reducible refine gate_callee (f := 20) rfl ?_); refine goesL_ (some 6) rfl rfl Try.func20 (by kernel_rfl) rfl #[.slice A0 l0.length c0] rfl (by (try simp only [List.map_toArray, List.map_cons, List.map_nil]); first | done | rfl | (simp only [List.length_drop, List.length_take]; rfl)) ?_; (with_reducible refine (nat_Right.calls _ _ l0 true _ ?side1 ?side2 A3.out).mono ?_); (case side1 => repeat (first | exact HR0.out | (with_reducible refine Kd.C_alloc ?_ _) | (with_reducible refine Kd.C_drewN ?_ _) | (with_reducible refine Kd.C_drew ?_))); (case side2 => exact HC0.out); rintro e w' ⟨rfl, ⟨nd, rfl⟩⟩; refine ⟨_, rfl, ?_⟩) | (go_at_call 14; (with_reducible refine (offcutref01_Of.calls k _ _ l0 t238 _ ?side1 ?side2 A5.out).mono ?_); (case side1 => repeat (first | exact HR0.out | (with_reducible refine Kd.C_alloc ?_ _) | (with_reducible refine Kd.C_drewN ?_ _) | (with_reducible refine Kd.C_drew ?_))); (case side2 => exact HC0.out); rintro e w6 ⟨rfl, hb⟩; have n0_ := Aside0.mk (below_step (by repeat (first | (with_reducible first | exact HB.out | apply below_alloc | apply pw_below_drewN | apply below_drew1) | exact HB.out)) hb); clear HB; have HB := n0_; clear n0_; (try clear hb); (try clear hb2); (try clear hk); (try clear hi)))
    go_ret
    exact ⟨by first | rfl | (simp [errW_none, errW_some] <;> rfl) | (simp [*, errW_none, errW_some] <;> rfl), by repeat (first | (with_reducible first | exact HB.out | apply below_alloc | apply pw_below_drewN | apply below_drew1) | exact HB.out)⟩
  · replace c4 := Bool.eq_false_iff.mpr c4
    subst c4
    have H1 : (some false) = some r := by rw [if_neg (show ¬ (false = true) by decide)] at H; exact H
    clear H
    have H := H1
    clear H1
    obtain rfl := Option.some.inj H
    go_enter Try.func17, Try.ntmps17
    go_wp2_with (first | ((with_reducible refine gate_callee (f := 20) rfl ?_); refine goesL_ (some 6) rfl rfl Try.func20 (by kernel_rfl) rfl #[.slice A0 l0.length c0] rfl (by (try simp only [List.map_toArray, List.map_cons, List.map_nil]); first | done | rfl | (simp only [List.length_drop, List.length_take]; rfl)) ?_; (with_reducible refine (nat_Right.calls _ _ l0 false _ ?side1 ?side2 A3.out).mono ?_); (case side1 => repeat (first | exact HR0.out | (with_reducible refine Kd.C_alloc ?_ _) | (with_reducible refine Kd.C_drewN ?_ _) | (with_reducible refine Kd.C_drew ?_))); (case side2 => exact HC0.out); rintro e w' ⟨rfl, ⟨nd, rfl⟩⟩; refine ⟨_, rfl, ?_⟩))
    go_ret
    exact ⟨by first | rfl | (simp [errW_none, errW_some] <;> rfl) | (simp [*, errW_none, errW_some] <;> rfl), by repeat (first | (with_reducible first | exact HB.out | apply below_alloc | apply pw_below_drewN | apply below_drew1) | exact HB.out)⟩

/-- A number's own row is that of its text, and of no other one. -/
theorem offcutlaw01_is.ev_nd {n : Nat} (hn : (Num.nd n).length < 10000000) (m : Nat) : Ev (fun k => offcutlaw01_is.f k (Num.nd n) (Dec.dec m)) (decide (n = m)) := by
  have hr : nat_Right.f (Num.nd n) = some true := nat_Right.nd (by omega)
  have h := offcutref01_Of.ev (Num.Ws_nd n) hn
  rw [Num.nv_nd] at h
  unfold offcutlaw01_is.f
  refine Ev.bind (Ev.congr (fun k => hr) (Ev.now true)) ?_
  refine Ev.congr (f := fun k => (offcutref01_Of.f k (Num.nd n)).bind fun t238 => some (t238.toList == (Dec.dec m).toList)) (fun k => by rw [if_pos rfl]) (Ev.bind h ?_)
  rw [Dec.dec_beq]
  exact Ev.now _

end Go.Proofs.Ytmodmjeibbgdgaa.PR

end
