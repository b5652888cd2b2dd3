-- PRINTED by print.py (a twelfth state) out of the translation. Not trusted: Lean checks it.
import Derived.Test.YtmodmjeibbgdgaaDec
import Derived.Test.YtmodmjeibbgdgaaPRx0
import Derived.Test.YtmodmjeibbgdgaaPRx17
import Derived.Test.YtmodmjeibbgdgaaPRx18
import Derived.Test.YtmodmjeibbgdgaaPRx19
namespace Go.Proofs.Ytmodmjeibbgdgaa.PR
open Go.RowKit Go.Proofs.YtmodmjeibbgdgaaW.PrintWords Go.Proofs.YtmodmjeibbgdgaaW.PrintLast Go.Proofs.YtmodmjeibbgdgaaW.PrintMore
attribute [local go_sem] max2_int min2_int max_two min_two max_three min_three max_four min_four   -- for this text's walks alone
set_option linter.unusedVariables false
set_option linter.unusedSimpArgs false

/-! ### offcutref01_Add: function 31 -/
mutual
def offcutref01_Add.l0 : Nat → ByteArray → ByteArray → ByteArray → Int → Int → Option (ByteArray)
  | 0, _, _, _, _, _ => none
  | k + 1, x0, x1, x5, x6, x7 => if x7 ≤ (x0.size : Int) then (offcutref01_Add.j1 k x0 x1 x5 x6 x7 true) else (offcutref01_Add.j1 k x0 x1 x5 x6 x7 (decide (x7 ≤ (x1.size : Int))))
def offcutref01_Add.j1 : Nat → ByteArray → ByteArray → ByteArray → Int → Int → Bool → Option (ByteArray)
  | 0, _, _, _, _, _, _ => none
  | k + 1, x0, x1, x5, x6, x7, x18 => if x18 = true then ((offcutref01_at.f x0 x7).bind fun t228 => ((offcutref01_at.f x1 x7).bind fun t229 => ((offcutref01_sign.f (Int.tmod (wrap64 ((wrap64 (t228 + t229)) + x6)) 10)).bind fun t230 => (if t230.size + x5.size ≤ 9223372036854775807 then (offcutref01_Add.l0 k x0 x1 (t230 ++ x5) (wrap64 (Int.tdiv (wrap64 ((wrap64 (t228 + t229)) + x6)) 10)) (wrap64 (x7 + 1))) else (none))))) else ((offcutref01_cut.f k x5).bind fun t231 => (some t231))
end
def offcutref01_Add.f (k : Nat) (a0 : ByteArray) (a1 : ByteArray) : Option (ByteArray) := offcutref01_Add.l0 k a0 a1 (⟨#[]⟩ : ByteArray) 0 0
theorem offcutref01_Add.mono_l : ∀ k, (∀ y0 y1 y2 y3 y4, LeO (offcutref01_Add.l0 k y0 y1 y2 y3 y4) (offcutref01_Add.l0 (k + 1) y0 y1 y2 y3 y4)) ∧ (∀ y0 y1 y2 y3 y4 y5, LeO (offcutref01_Add.j1 k y0 y1 y2 y3 y4 y5) (offcutref01_Add.j1 (k + 1) y0 y1 y2 y3 y4 y5))
  | 0 => ⟨fun _ _ _ _ _ r h => by simp [offcutref01_Add.l0] at h, fun _ _ _ _ _ _ r h => by simp [offcutref01_Add.j1] at h⟩
  | k + 1 => by
    obtain ⟨ih0, ih1⟩ := offcutref01_Add.mono_l k
    refine ⟨?_, ?_⟩
    · intro y0 y1 y2 y3 y4
      unfold offcutref01_Add.l0
      repeat' first
      | (with_reducible exact ih0 _ _ _ _ _)
      | (with_reducible exact ih1 _ _ _ _ _ _)
      | (with_reducible exact offcutref01_cut.mono _ _)
      | (with_reducible exact LeO.refl _)
      | (with_reducible exact LeO.none _)
      | (with_reducible refine LeO.ite ?_ ?_)
      | (with_reducible refine LeO.bind ?_ (fun _ => ?_))
      | exact ih0 _ _ _ _ _
      | exact ih1 _ _ _ _ _ _
      | exact offcutref01_cut.mono _ _
      | exact LeO.none _
      | refine LeO.ite ?_ ?_
      | refine LeO.bind ?_ (fun _ => ?_)
    · intro y0 y1 y2 y3 y4 y5
      unfold offcutref01_Add.j1
      repeat' first
      | (with_reducible exact ih0 _ _ _ _ _)
      | (with_reducible exact ih1 _ _ _ _ _ _)
      | (with_reducible exact offcutref01_cut.mono _ _)
      | (with_reducible exact LeO.refl _)
      | (with_reducible exact LeO.none _)
      | (with_reducible refine LeO.ite ?_ ?_)
      | (with_reducible refine LeO.bind ?_ (fun _ => ?_))
      | exact ih0 _ _ _ _ _
      | exact ih1 _ _ _ _ _ _
      | exact offcutref01_cut.mono _ _
      | exact LeO.none _
      | refine LeO.ite ?_ ?_
      | refine LeO.bind ?_ (fun _ => ?_)
theorem offcutref01_Add.mono : ∀ a0 a1 k, LeO (offcutref01_Add.f k a0 a1) (offcutref01_Add.f (k + 1) a0 a1) := by
  intro a0 a1 k
  obtain ⟨ih0, ih1⟩ := offcutref01_Add.mono_l k
  unfold offcutref01_Add.f
  repeat' first
      | (with_reducible exact ih0 _ _ _ _ _)
      | (with_reducible exact ih1 _ _ _ _ _ _)
      | (with_reducible exact offcutref01_cut.mono _ _)
      | (with_reducible exact LeO.refl _)
      | (with_reducible exact LeO.none _)
      | (with_reducible refine LeO.ite ?_ ?_)
      | (with_reducible refine LeO.bind ?_ (fun _ => ?_))
      | exact ih0 _ _ _ _ _
      | exact ih1 _ _ _ _ _ _
      | exact offcutref01_cut.mono _ _
      | exact LeO.none _
      | refine LeO.ite ?_ ?_
      | refine LeO.bind ?_ (fun _ => ?_)
set_option maxHeartbeats 8000000 in
set_option maxRecDepth 100000 in
theorem offcutref01_Add.calls (k : Nat) (a0 : ByteArray) (a1 : ByteArray) (r : ByteArray) (w : World) (h : offcutref01_Add.f k a0 a1 = some r) :
    Calls Try.prog 31 #[.string a0, .string a1] w fun e w' => e = .returned (.string r) ∧ Drawn0 w w' := by
  have H : (offcutref01_Add.l0 k a0 a1 (⟨#[]⟩ : ByteArray) 0 0) = some r := h
  clear h
  have H' := Aside0.mk H
  clear H
  go_enter Try.func31, Try.ntmps31
  go_wp2
  go_loopg [5, 6, 7] k (fun kq v5 v6 v7 w' => ∃ (x5_1 : ByteArray) (x6_1 : Int) (x7_1 : Int), v5 = .string x5_1 ∧ v6 = .int .i64 x6_1 ∧ v7 = .int .i64 x7_1 ∧ Aside0 (offcutref01_Add.l0 kq a0 a1 x5_1 x6_1 x7_1 = some r) ∧ Aside0 (kq ≤ k) ∧ Drawn0 w w')
  case atStart => exact ⟨((⟨#[]⟩ : ByteArray)), (0), (0), (by first | rfl | (simp; done) | (simp [*]; done)), (by first | rfl | (simp; done) | (simp [*]; done)), (by first | rfl | (simp; done) | (simp [*]; done)), H', ⟨Nat.le_refl _⟩, by repeat (first | exact Drawn0.refl _ | apply Drawn0.step)⟩
  case round =>
    clear H'
    try clear p2
    obtain ⟨x5_1, x6_1, x7_1, rfl, rfl, rfl, HA, HK1, ⟨m1, rfl⟩⟩ := hrel
    cases gk with
    | zero => exact absurd HA.out (by simp [offcutref01_Add.l0])
    | succ k1 =>
      have H := HA.out
      clear HA
      simp only [offcutref01_Add.l0] at H
      have HC3 := Aside0.mk H
      clear H
      go_upto_region 4 with (fail)
      go_cut [18] (fun v18 wc => ∃ (kq : Nat) (x18_2 : Bool), v18 = .bool x18_2 ∧ Aside0 (offcutref01_Add.j1 kq a0 a1 x5_1 x6_1 x7_1 x18_2 = some r) ∧ Aside0 (kq ≤ k1) ∧ Drawn0 w wc)
      case first =>
        have H := HC3.out
        clear HC3
        by_cases c4 : x7_1 ≤ (a0.size : Int)
        · rw [if_pos c4] at H
          have c4b0 : decide (x7_1 ≤ (a0.size : Int)) = true := decide_eq_true c4
          clear c4
          (first | rw [c4b0] | (simp only [i64_w, i32_w]; rw [c4b0]) | skip)
          have H' := Aside0.mk H
          clear H
          go_wp2
          go_meet
          case rel => exact ⟨_, (true), (by first | rfl | (simp; done) | (simp [*]; done)), H', ⟨by have := HK1.out; first | omega | exact Nat.le_refl _⟩, by repeat (first | exact Drawn0.refl _ | apply Drawn0.step)⟩
        · rw [if_neg c4] at H
          have c4b0 : decide (x7_1 ≤ (a0.size : Int)) = false := decide_eq_false c4
          clear c4
          (first | rw [c4b0] | (simp only [i64_w, i32_w]; rw [c4b0]) | skip)
          have H' := Aside0.mk H
          clear H
          go_wp2
          go_meet
          case rel => exact ⟨_, (decide (x7_1 ≤ (a1.size : Int))), (by first | rfl | (simp; done) | (simp [*]; done)), H', ⟨by have := HK1.out; first | omega | exact Nat.le_refl _⟩, by repeat (first | exact Drawn0.refl _ | apply Drawn0.step)⟩
      case rest =>
        clear HC3
        try clear p2
        try clear c3
        try clear c4
        try clear c4b0
        try clear p2
        obtain ⟨kq, x18_2, rfl, HA, HJ2, ⟨mc2, rfl⟩⟩ := hcut
        cases kq with
        | zero => exact absurd HA.out (by simp [offcutref01_Add.j1])
        | succ kj2 =>
          have H := HA.out
          clear HA
          simp only [offcutref01_Add.j1] at H
          by_cases c5 : x18_2 = true
          · subst c5
            have H1 : ((offcutref01_at.f a0 x7_1).bind fun t228 => ((offcutref01_at.f a1 x7_1).bind fun t229 => ((offcutref01_sign.f (Int.tmod (wrap64 ((wrap64 (t228 + t229)) + x6_1)) 10)).bind fun t230 => (if t230.size + x5_1.size ≤ 9223372036854775807 then (offcutref01_Add.l0 kj2 a0 a1 (t230 ++ x5_1) (wrap64 (Int.tdiv (wrap64 ((wrap64 (t228 + t229)) + x6_1)) 10)) (wrap64 (x7_1 + 1))) else (none))))) = some r := by rw [if_pos rfl] at H; exact H
            clear H
            have H := H1
            clear H1
            replace H := Option.bind_eq_some_iff.mp H
            obtain ⟨t228, A60, H⟩ := H
            replace H : ((offcutref01_at.f a1 x7_1).bind fun t229 => ((offcutref01_sign.f (Int.tmod (wrap64 ((wrap64 (t228 + t229)) + x6_1)) 10)).bind fun t230 => (if t230.size + x5_1.size ≤ 9223372036854775807 then (offcutref01_Add.l0 kj2 a0 a1 (t230 ++ x5_1) (wrap64 (Int.tdiv (wrap64 ((wrap64 (t228 + t229)) + x6_1)) 10)) (wrap64 (x7_1 + 1))) else (none)))) = some r := H
            have A6 := Aside0.mk A60
            clear A60
            replace H := Option.bind_eq_some_iff.mp H
            obtain ⟨t229, A70, H⟩ := H
            replace H : ((offcutref01_sign.f (Int.tmod (wrap64 ((wrap64 (t228 + t229)) + x6_1)) 10)).bind fun t230 => (if t230.size + x5_1.size ≤ 9223372036854775807 then (offcutref01_Add.l0 kj2 a0 a1 (t230 ++ x5_1) (wrap64 (Int.tdiv (wrap64 ((wrap64 (t228 + t229)) + x6_1)) 10)) (wrap64 (x7_1 + 1))) else (none))) = some r := H
            have A7 := Aside0.mk A70
            clear A70
            replace H := Option.bind_eq_some_iff.mp H
            obtain ⟨t230, A80, H⟩ := H
            replace H : (if t230.size + x5_1.size ≤ 9223372036854775807 then (offcutref01_Add.l0 kj2 a0 a1 (t230 ++ x5_1) (wrap64 (Int.tdiv (wrap64 ((wrap64 (t228 + t229)) + x6_1)) 10)) (wrap64 (x7_1 + 1))) else (none)) = some r := H
            have A8 := Aside0.mk A80
            clear A80
            by_cases c9 : t230.size + x5_1.size ≤ 9223372036854775807
            · rw [if_pos c9] at H
              have c9b0 := eq_true c9
              have c9b1 : decide (t230.size + x5_1.size ≤ 9223372036854775807) = true := decide_eq_true c9
              try have c9b2 : (9223372036854775807 < t230.size + x5_1.size) = False := eq_false (Nat.not_lt.2 c9)
              have H' := Aside0.mk H
              clear H
              go_wp2_with (first | ((with_reducible refine gate_callee (f := 42) rfl ?_); refine goesL_ (some 23) rfl rfl Try.func42 (by kernel_rfl) rfl #[.string a0, .int .i64 x7_1] rfl (by (try simp only [List.map_toArray, List.map_cons, List.map_nil]); first | done | rfl | (simp only [List.length_drop, List.length_take]; rfl)) ?_; (with_reducible refine (offcutref01_at.calls a0 x7_1 t228 _ A6.out).mono ?_); rintro e w' ⟨rfl, ⟨nd, rfl⟩⟩; refine ⟨_, rfl, ?_⟩) | ((with_reducible refine gate_callee (f := 42) rfl ?_); refine goesL_ (some 26) rfl rfl Try.func42 (by kernel_rfl) rfl #[.string a1, .int .i64 x7_1] rfl (by (try simp only [List.map_toArray, List.map_cons, List.map_nil]); first | done | rfl | (simp only [List.length_drop, List.length_take]; rfl)) ?_; (with_reducible refine (offcutref01_at.calls a1 x7_1 t229 _ A7.out).mono ?_); rintro e w' ⟨rfl, ⟨nd, rfl⟩⟩; refine ⟨_, rfl, ?_⟩) | ((with_reducible refine gate_callee (f := 36) rfl ?_); refine goesL_ (some 32) rfl rfl Try.func36 (by kernel_rfl) rfl #[.int .i64 (Int.tmod (wrap64 ((wrap64 (t228 + t229)) + x6_1)) 10)] rfl (by (try simp only [List.map_toArray, List.map_cons, List.map_nil]); first | done | rfl | (simp only [List.length_drop, List.length_take]; rfl)) ?_; (with_reducible refine (offcutref01_sign.calls (Int.tmod (wrap64 ((wrap64 (t228 + t229)) + x6_1)) 10) t230 _ A8.out).mono ?_); rintro e w' ⟨rfl, ⟨nd, rfl⟩⟩; refine ⟨_, rfl, ?_⟩))
              go_roundg kj2
              case measure => have := HK1.out; have := HJ2.out; omega
              case rel => exact ⟨(t230 ++ x5_1), (wrap64 (Int.tdiv (wrap64 ((wrap64 (t228 + t229)) + x6_1)) 10)), (wrap64 (x7_1 + 1)), (by first | rfl | (simp; done) | (simp [*]; done)), (by first | rfl | (simp; done) | (simp [*]; done)), (by first | rfl | (simp; done) | (simp [*]; done)), H', ⟨by have := HK1.out; have := HJ2.out; omega⟩, by repeat (first | exact Drawn0.refl _ | apply Drawn0.step)⟩
            · rw [if_neg c9] at H
              exact absurd H (by simp)
          · replace c5 := Bool.eq_false_iff.mpr c5
            subst c5
            have H1 : ((offcutref01_cut.f kj2 x5_1).bind fun t231 => (some t231)) = some r := by rw [if_neg (show ¬ (false = true) by decide)] at H; exact H
            clear H
            have H := H1
            clear H1
            replace H := Option.bind_eq_some_iff.mp H
            obtain ⟨t231, A100, H⟩ := H
            replace H : (some t231) = some r := H
            have A10 := Aside0.mk A100
            clear A100
            obtain rfl := Option.some.inj H
            go_wp2_with (first | ((with_reducible refine gate_callee (f := 37) rfl ?_); refine goesL_ (some 38) rfl rfl Try.func37 (by kernel_rfl) rfl #[.string x5_1] rfl (by (try simp only [List.map_toArray, List.map_cons, List.map_nil]); first | done | rfl | (simp only [List.length_drop, List.length_take]; rfl)) ?_; (with_reducible refine (offcutref01_cut.calls kj2 x5_1 t231 _ A10.out).mono ?_); rintro e w' ⟨rfl, ⟨nd, rfl⟩⟩; refine ⟨_, rfl, ?_⟩))
            go_ret
            exact ⟨by first | rfl | (simp; done) | (simp [*]; done), by repeat (first | exact Drawn0.refl _ | apply Drawn0.step)⟩

theorem offcutref01_Add.l0_eq (k : Nat) {a b : List Nat} (x5 : ByteArray) (x6 : Int) (j : Nat) : offcutref01_Add.l0 (k + 1) (Dec.tx a) (Dec.tx b) x5 x6 (j : Int) = offcutref01_Add.j1 k (Dec.tx a) (Dec.tx b) x5 x6 (j : Int) (decide (j ≤ a.length ∨ j ≤ b.length)) := by
  rw [offcutref01_Add.l0, Dec.tx_size, Dec.tx_size]
  by_cases h : j ≤ a.length
  · rw [if_pos (by omega), decide_eq_true (.inl h)]
  · rw [if_neg (by omega)]
    rw [show decide ((j : Int) ≤ (b.length : Int)) = decide (j ≤ a.length ∨ j ≤ b.length) from decide_eq_decide.2 (by omega)]
theorem offcutref01_Add.ev_l {a b : List Nat} (ha : Dec.Ds a) (hb : Dec.Ds b) (la : a.length < 1000000000) (lb : b.length < 1000000000) (d : Nat) : ∀ (out : List Nat) (c : Nat), out.length + d = max a.length b.length + 1 → Dec.Ds out → c ≤ 1 →
    Dec.dv (a.take out.length) + Dec.dv (b.take out.length) = Dec.dv out + 10 ^ out.length * c → Ev (fun k => offcutref01_Add.l0 k (Dec.tx a) (Dec.tx b) (Dec.tx out) (c : Int) (out.length : Int)) (Dec.dec (Dec.dv a + Dec.dv b)) := by
  induction d with
  | zero =>
    intro out c hd ho hc hv
    have h1 := Dec.dv_lt ha
    have h2 := Dec.dv_lt hb
    obtain ⟨m, hm⟩ : ∃ m, out.length = m + 1 := ⟨max a.length b.length, by omega⟩
    have h3 : 10 ^ a.length ≤ 10 ^ m := Nat.pow_le_pow_right (by omega) (by omega)
    have h4 : 10 ^ b.length ≤ 10 ^ m := Nat.pow_le_pow_right (by omega) (by omega)
    rw [List.take_of_length_le (by omega), List.take_of_length_le (by omega), hm, Nat.pow_succ] at hv
    have hc0 : c = 0 := by
      rcases Nat.eq_zero_or_pos c with h | h
      · exact h
      · obtain rfl : c = 1 := by omega
        omega
    subst hc0
    have hvv : Dec.dv out = Dec.dv a + Dec.dv b := by omega
    refine Ev.step (f := fun k => offcutref01_Add.j1 k (Dec.tx a) (Dec.tx b) (Dec.tx out) ((0 : Nat) : Int) (out.length : Int) false) (fun k => ?_) ?_
    · rw [offcutref01_Add.l0_eq, decide_eq_false (by omega)]
    · refine Ev.step (f := fun k => (offcutref01_cut.f k (Dec.tx out)).bind fun t => some t) (fun k => ?_) ?_
      · rw [offcutref01_Add.j1, if_neg (by simp)]
      · rw [← hvv]
        exact Ev.bind (offcutref01_cut.ev ho) (Ev.now _)
  | succ d ih =>
    intro out c hd ho hc hv
    have h1 := ha.getD out.length
    have h2 := hb.getD out.length
    obtain ⟨p, hp⟩ : ∃ p, p = a.getD out.length 0 := ⟨_, rfl⟩
    obtain ⟨q, hq⟩ : ∃ q, q = b.getD out.length 0 := ⟨_, rfl⟩
    refine Ev.step (f := fun k => offcutref01_Add.j1 k (Dec.tx a) (Dec.tx b) (Dec.tx out) (c : Int) (out.length : Int) true) (fun k => ?_) ?_
    · rw [offcutref01_Add.l0_eq, decide_eq_true (by omega)]
    · refine Ev.step (f := fun k => offcutref01_Add.l0 k (Dec.tx a) (Dec.tx b) (Dec.tx (out ++ [(p + q + c) % 10])) (((p + q + c) / 10 : Nat) : Int) ((out.length + 1 : Nat) : Int)) (fun k => ?_) ?_
      · rw [offcutref01_Add.j1, if_pos rfl, offcutref01_at.sem ha (by omega), offcutref01_at.sem hb (by omega), ← hp, ← hq]
        rw [Option.bind_some, Option.bind_some, Dec.w64a _ _ (by omega), Dec.w64a _ _ (by omega), Dec.tmod10, Dec.tdiv10, offcutref01_sign.sem _ (Nat.mod_lt _ (by omega)), Option.bind_some, Dec.tx_append, Dec.tx_size, Dec.tx_size, if_pos (by rw [List.length_singleton]; omega), Dec.w64n _ (by omega), Dec.w64s _ (by omega)]
      · have := ih (out ++ [(p + q + c) % 10]) ((p + q + c) / 10) (by rw [List.length_append, List.length_singleton]; omega) (ho.snoc (Nat.mod_lt _ (by omega))) (by omega) (by
          rw [List.length_append, List.length_singleton, Dec.dv_take_succ, Dec.dv_take_succ, ← hp, ← hq, Dec.dv_snoc, Nat.pow_succ]
          have h3 : 10 ^ out.length * (p + q + c) = 10 ^ out.length * ((p + q + c) % 10 + 10 * ((p + q + c) / 10)) := by congr 1; omega
          rw [Nat.mul_add, Nat.mul_add, Nat.mul_add, ← Nat.mul_assoc] at h3
          omega)
        rw [List.length_append, List.length_singleton] at this
        exact this
theorem offcutref01_Add.ev {a b : List Nat} (ha : Dec.Ds a) (hb : Dec.Ds b) (la : a.length < 1000000000) (lb : b.length < 1000000000) : Ev (fun k => offcutref01_Add.f k (Dec.tx a) (Dec.tx b)) (Dec.dec (Dec.dv a + Dec.dv b)) :=
  offcutref01_Add.ev_l ha hb la lb (max a.length b.length + 1) [] 0 (by rw [List.length_nil]; omega) Dec.Ds.nil (by omega) (by rw [List.length_nil, List.take_zero, List.take_zero]; rfl)

end Go.Proofs.Ytmodmjeibbgdgaa.PR
