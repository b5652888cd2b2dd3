/- Several functions' printed texts in one file. -/
import Derived.Test.YtcdkopidgibijaaShort
import Derived.Test.YtcdkopidgibijaaPRg0
import Derived.Test.YtcdkopidgibijaaPRg47
import Derived.Test.YtcdkopidgibijaaPRx62
import Derived.Test.YtcdkopidgibijaaPRg63
namespace Go.Proofs.Ytcdkopidgibijaa.PR
open Go.RowKit Go.Proofs.YtcdkopidgibijaaW.PrintWords Go.Proofs.YtcdkopidgibijaaW.PrintLast Go.Proofs.YtcdkopidgibijaaW.PrintMore
attribute [local go_sem] max2_int min2_int max_two min_two max_three min_three max_four min_four   -- for this text's walks alone
set_option linter.unusedVariables false
set_option linter.unusedSimpArgs false
/-! ### offcutref02_Add: function 19 -/
def offcutref02_Add.f (k : Nat) (a0 : ByteArray) (a1 : ByteArray) : Option (ByteArray) := (offcutref02_Below.f a0).bind fun t700 => ((offcutref02_Below.f a1).bind fun t701 => (if (t700 == t701) = true then ((offcutref02_Below.f a0).bind fun t702 => ((offcutref02_size.f a0).bind fun t703 => ((offcutref02_size.f a1).bind fun t704 => ((offcutref01_Add.f k t703 t704).bind fun t705 => ((offcutref02_Made.f t702 t705).bind fun t706 => (some t706)))))) else ((offcutref02_size.f a0).bind fun t707 => ((offcutref02_size.f a1).bind fun t708 => ((offcutref01_Less.f t707 t708).bind fun t709 => (if t709 = true then ((offcutref02_Below.f a1).bind fun t710 => ((offcutref02_size.f a1).bind fun t711 => ((offcutref02_size.f a0).bind fun t712 => ((offcutref01_Sub.f k t711 t712).bind fun t713 => ((offcutref02_Made.f t710 t713).bind fun t714 => (some t714)))))) else ((offcutref02_Below.f a0).bind fun t715 => ((offcutref02_size.f a0).bind fun t716 => ((offcutref02_size.f a1).bind fun t717 => ((offcutref01_Sub.f k t716 t717).bind fun t718 => ((offcutref02_Made.f t715 t718).bind fun t719 => (some t719))))))))))))
set_option maxHeartbeats 8000000 in
set_option maxRecDepth 100000 in
theorem offcutref02_Add.calls (k : Nat) (a0 : ByteArray) (a1 : ByteArray) (r : ByteArray) (w : World) (h : offcutref02_Add.f k a0 a1 = some r) :
  Calls Try.prog 19 #[.string a0, .string a1] w fun e w' => e = .returned (.string r) ∧ Drawn0 w w' := by
 have H : ((offcutref02_Below.f a0).bind fun t700 => ((offcutref02_Below.f a1).bind fun t701 => (if (t700 == t701) = true then ((offcutref02_Below.f a0).bind fun t702 => ((offcutref02_size.f a0).bind fun t703 => ((offcutref02_size.f a1).bind fun t704 => ((offcutref01_Add.f k t703 t704).bind fun t705 => ((offcutref02_Made.f t702 t705).bind fun t706 => (some t706)))))) else ((offcutref02_size.f a0).bind fun t707 => ((offcutref02_size.f a1).bind fun t708 => ((offcutref01_Less.f t707 t708).bind fun t709 => (if t709 = true then ((offcutref02_Below.f a1).bind fun t710 => ((offcutref02_size.f a1).bind fun t711 => ((offcutref02_size.f a0).bind fun t712 => ((offcutref01_Sub.f k t711 t712).bind fun t713 => ((offcutref02_Made.f t710 t713).bind fun t714 => (some t714)))))) else ((offcutref02_Below.f a0).bind fun t715 => ((offcutref02_size.f a0).bind fun t716 => ((offcutref02_size.f a1).bind fun t717 => ((offcutref01_Sub.f k t716 t717).bind fun t718 => ((offcutref02_Made.f t715 t718).bind fun t719 => (some t719))))))))))))) = some r := h
 clear h
 replace H := Option.bind_eq_some_iff.mp H
 obtain ⟨t700, A30, H⟩ := H
 try dsimp only at H
 have A3 := Aside0.mk A30
 clear A30
 replace H := Option.bind_eq_some_iff.mp H
 obtain ⟨t701, A40, H⟩ := H
 try dsimp only at H
 have A4 := Aside0.mk A40
 clear A40
 by_cases c5 : (t700 == t701) = true
 ·rw [if_pos c5] at H
  have c5b0 : (t700 == t701) = true := c5
  (try (have c5b1 : decide (t700 = t701) = true := by simpa using c5))
  (try (have c5b2 : (t700 == t701) = true := by simpa using c5))
  clear c5
  replace H := Option.bind_eq_some_iff.mp H
  obtain ⟨t702, A60, H⟩ := H
  try dsimp only at H
  have A6 := Aside0.mk A60
  clear A60
  replace H := Option.bind_eq_some_iff.mp H
  obtain ⟨t703, A70, H⟩ := H
  try dsimp only at H
  have A7 := Aside0.mk A70
  clear A70
  replace H := Option.bind_eq_some_iff.mp H
  obtain ⟨t704, A80, H⟩ := H
  try dsimp only at H
  have A8 := Aside0.mk A80
  clear A80
  replace H := Option.bind_eq_some_iff.mp H
  obtain ⟨t705, A90, H⟩ := H
  try dsimp only at H
  have A9 := Aside0.mk A90
  clear A90
  replace H := Option.bind_eq_some_iff.mp H
  obtain ⟨t706, A100, H⟩ := H
  replace H : (some t706) = some r := H
  have A10 := Aside0.mk A100
  clear A100
  obtain rfl := Option.some.inj H
  go_enter Try.func19, Try.ntmps19
  go_wp2_with (first | ((with_reducible refine gate_callee (f := 52) rfl ?_); refine Short.goesS_ (some 6) Try.func52 #[.string a0] ?_; (with_reducible refine (offcutref02_Below.calls a0 t700 _ A3.out).mono ?_); rintro e w' ⟨rfl, ⟨nd, rfl⟩⟩; refine ⟨_, rfl, ?_⟩) | ((with_reducible refine gate_callee (f := 52) rfl ?_); refine Short.goesS_ (some 8) Try.func52 #[.string a1] ?_; (with_reducible refine (offcutref02_Below.calls a1 t701 _ A4.out).mono ?_); rintro e w' ⟨rfl, ⟨nd, rfl⟩⟩; refine ⟨_, rfl, ?_⟩) | ((with_reducible refine gate_callee (f := 52) rfl ?_); refine Short.goesS_ (some 11) Try.func52 #[.string a0] ?_; (with_reducible refine (offcutref02_Below.calls a0 t702 _ A6.out).mono ?_); rintro e w' ⟨rfl, ⟨nd, rfl⟩⟩; refine ⟨_, rfl, ?_⟩) | ((with_reducible refine gate_callee (f := 54) rfl ?_); refine Short.goesS_ (some 13) Try.func54 #[.string a0] ?_; (with_reducible refine (offcutref02_size.calls a0 t703 _ A7.out).mono ?_); rintro e w' ⟨rfl, ⟨nd, rfl⟩⟩; refine ⟨_, rfl, ?_⟩) | ((with_reducible refine gate_callee (f := 54) rfl ?_); refine Short.goesS_ (some 15) Try.func54 #[.string a1] ?_; (with_reducible refine (offcutref02_size.calls a1 t704 _ A8.out).mono ?_); rintro e w' ⟨rfl, ⟨nd, rfl⟩⟩; refine ⟨_, rfl, ?_⟩) | ((with_reducible refine gate_callee (f := 56) rfl ?_); refine Short.goesS_ (some 16) Try.func56 #[.string t703, .string t704] ?_; (with_reducible refine (offcutref01_Add.calls k t703 t704 t705 _ A9.out).mono ?_); rintro e w' ⟨rfl, ⟨nd, rfl⟩⟩; refine ⟨_, rfl, ?_⟩) | ((with_reducible refine gate_callee (f := 48) rfl ?_); refine Short.goesS_ (some 17) Try.func48 #[.bool t702, .string t705] ?_; (with_reducible refine (offcutref02_Made.calls t702 t705 t706 _ A10.out).mono ?_); rintro e w' ⟨rfl, ⟨nd, rfl⟩⟩; refine ⟨_, rfl, ?_⟩))
  go_ret
  exact ⟨by first | rfl | (simp; done) | (simp [*]; done), by repeat (first | exact Drawn0.refl _ | apply Drawn0.step)⟩
 ·rw [if_neg c5] at H
  have c5b0 : (t700 == t701) = false := by simpa using c5
  (try (have c5b1 : decide (t700 = t701) = false := by simpa using c5))
  (try (have c5b2 : (t700 == t701) = false := by simpa using c5))
  (try (have c5b3 : ¬ (t700 = t701) := by simpa using c5))
  clear c5
  replace H := Option.bind_eq_some_iff.mp H
  obtain ⟨t707, A110, H⟩ := H
  try dsimp only at H
  have A11 := Aside0.mk A110
  clear A110
  replace H := Option.bind_eq_some_iff.mp H
  obtain ⟨t708, A120, H⟩ := H
  try dsimp only at H
  have A12 := Aside0.mk A120
  clear A120
  replace H := Option.bind_eq_some_iff.mp H
  obtain ⟨t709, A130, H⟩ := H
  try dsimp only at H
  have A13 := Aside0.mk A130
  clear A130
  by_cases c14 : t709 = true
  ·subst c14
   have H1 : ((offcutref02_Below.f a1).bind fun t710 => ((offcutref02_size.f a1).bind fun t711 => ((offcutref02_size.f a0).bind fun t712 => ((offcutref01_Sub.f k t711 t712).bind fun t713 => ((offcutref02_Made.f t710 t713).bind fun t714 => (some t714)))))) = some r := by rw [if_pos rfl] at H; exact H
   clear H
   have H := H1
   clear H1
   replace H := Option.bind_eq_some_iff.mp H
   obtain ⟨t710, A150, H⟩ := H
   try dsimp only at H
   have A15 := Aside0.mk A150
   clear A150
   replace H := Option.bind_eq_some_iff.mp H
   obtain ⟨t711, A160, H⟩ := H
   try dsimp only at H
   have A16 := Aside0.mk A160
   clear A160
   replace H := Option.bind_eq_some_iff.mp H
   obtain ⟨t712, A170, H⟩ := H
   try dsimp only at H
   have A17 := Aside0.mk A170
   clear A170
   replace H := Option.bind_eq_some_iff.mp H
   obtain ⟨t713, A180, H⟩ := H
   try dsimp only at H
   have A18 := Aside0.mk A180
   clear A180
   replace H := Option.bind_eq_some_iff.mp H
   obtain ⟨t714, A190, H⟩ := H
   replace H : (some t714) = some r := H
   have A19 := Aside0.mk A190
   clear A190
   obtain rfl := Option.some.inj H
   go_enter Try.func19, Try.ntmps19
   go_wp2_with (first | ((with_reducible refine gate_callee (f := 52) rfl ?_); refine Short.goesS_ (some 6) Try.func52 #[.string a0] ?_; (with_reducible refine (offcutref02_Below.calls a0 t700 _ A3.out).mono ?_); rintro e w' ⟨rfl, ⟨nd, rfl⟩⟩; refine ⟨_, rfl, ?_⟩) | ((with_reducible refine gate_callee (f := 52) rfl ?_); refine Short.goesS_ (some 8) Try.func52 #[.string a1] ?_; (with_reducible refine (offcutref02_Below.calls a1 t701 _ A4.out).mono ?_); rintro e w' ⟨rfl, ⟨nd, rfl⟩⟩; refine ⟨_, rfl, ?_⟩) | ((with_reducible refine gate_callee (f := 54) rfl ?_); refine Short.goesS_ (some 19) Try.func54 #[.string a0] ?_; (with_reducible refine (offcutref02_size.calls a0 t707 _ A11.out).mono ?_); rintro e w' ⟨rfl, ⟨nd, rfl⟩⟩; refine ⟨_, rfl, ?_⟩) | ((with_reducible refine gate_callee (f := 54) rfl ?_); refine Short.goesS_ (some 21) Try.func54 #[.string a1] ?_; (with_reducible refine (offcutref02_size.calls a1 t708 _ A12.out).mono ?_); rintro e w' ⟨rfl, ⟨nd, rfl⟩⟩; refine ⟨_, rfl, ?_⟩) | ((with_reducible refine gate_callee (f := 57) rfl ?_); refine Short.goesS_ (some 22) Try.func57 #[.string t707, .string t708] ?_; (with_reducible refine (offcutref01_Less.calls t707 t708 true _ A13.out).mono ?_); rintro e w' ⟨rfl, ⟨nd, rfl⟩⟩; refine ⟨_, rfl, ?_⟩) | ((with_reducible refine gate_callee (f := 52) rfl ?_); refine Short.goesS_ (some 24) Try.func52 #[.string a1] ?_; (with_reducible refine (offcutref02_Below.calls a1 t710 _ A15.out).mono ?_); rintro e w' ⟨rfl, ⟨nd, rfl⟩⟩; refine ⟨_, rfl, ?_⟩) | ((with_reducible refine gate_callee (f := 54) rfl ?_); refine Short.goesS_ (some 26) Try.func54 #[.string a1] ?_; (with_reducible refine (offcutref02_size.calls a1 t711 _ A16.out).mono ?_); rintro e w' ⟨rfl, ⟨nd, rfl⟩⟩; refine ⟨_, rfl, ?_⟩) | ((with_reducible refine gate_callee (f := 54) rfl ?_); refine Short.goesS_ (some 28) Try.func54 #[.string a0] ?_; (with_reducible refine (offcutref02_size.calls a0 t712 _ A17.out).mono ?_); rintro e w' ⟨rfl, ⟨nd, rfl⟩⟩; refine ⟨_, rfl, ?_⟩) | ((with_reducible refine gate_callee (f := 58) rfl ?_); refine Short.goesS_ (some 29) Try.func58 #[.string t711, .string t712] ?_; (with_reducible refine (offcutref01_Sub.calls k t711 t712 t713 _ A18.out).mono ?_); rintro e w' ⟨rfl, ⟨nd, rfl⟩⟩; refine ⟨_, rfl, ?_⟩) | ((with_reducible refine gate_callee (f := 48) rfl ?_); refine Short.goesS_ (some 30) Try.func48 #[.bool t710, .string t713] ?_; (with_reducible refine (offcutref02_Made.calls t710 t713 t714 _ A19.out).mono ?_); rintro e w' ⟨rfl, ⟨nd, rfl⟩⟩; refine ⟨_, rfl, ?_⟩))
   go_ret
   exact ⟨by first | rfl | (simp; done) | (simp [*]; done), by repeat (first | exact Drawn0.refl _ | apply Drawn0.step)⟩
  ·replace c14 := Bool.eq_false_iff.mpr c14
   subst c14
   have H1 : ((offcutref02_Below.f a0).bind fun t715 => ((offcutref02_size.f a0).bind fun t716 => ((offcutref02_size.f a1).bind fun t717 => ((offcutref01_Sub.f k t716 t717).bind fun t718 => ((offcutref02_Made.f t715 t718).bind fun t719 => (some t719)))))) = some r := by rw [if_neg (show ¬ (false = true) by decide)] at H; exact H
   clear H
   have H := H1
   clear H1
   replace H := Option.bind_eq_some_iff.mp H
   obtain ⟨t715, A200, H⟩ := H
   try dsimp only at H
   have A20 := Aside0.mk A200
   clear A200
   replace H := Option.bind_eq_some_iff.mp H
   obtain ⟨t716, A210, H⟩ := H
   try dsimp only at H
   have A21 := Aside0.mk A210
   clear A210
   replace H := Option.bind_eq_some_iff.mp H
   obtain ⟨t717, A220, H⟩ := H
   try dsimp only at H
   have A22 := Aside0.mk A220
   clear A220
   replace H := Option.bind_eq_some_iff.mp H
   obtain ⟨t718, A230, H⟩ := H
   try dsimp only at H
   have A23 := Aside0.mk A230
   clear A230
   replace H := Option.bind_eq_some_iff.mp H
   obtain ⟨t719, A240, H⟩ := H
   replace H : (some t719) = some r := H
   have A24 := Aside0.mk A240
   clear A240
   obtain rfl := Option.some.inj H
   go_enter Try.func19, Try.ntmps19
   go_wp2_with (first | ((with_reducible refine gate_callee (f := 52) rfl ?_); refine Short.goesS_ (some 6) Try.func52 #[.string a0] ?_; (with_reducible refine (offcutref02_Below.calls a0 t700 _ A3.out).mono ?_); rintro e w' ⟨rfl, ⟨nd, rfl⟩⟩; refine ⟨_, rfl, ?_⟩) | ((with_reducible refine gate_callee (f := 52) rfl ?_); refine Short.goesS_ (some 8) Try.func52 #[.string a1] ?_; (with_reducible refine (offcutref02_Below.calls a1 t701 _ A4.out).mono ?_); rintro e w' ⟨rfl, ⟨nd, rfl⟩⟩; refine ⟨_, rfl, ?_⟩) | ((with_reducible refine gate_callee (f := 54) rfl ?_); refine Short.goesS_ (some 19) Try.func54 #[.string a0] ?_; (with_reducible refine (offcutref02_size.calls a0 t707 _ A11.out).mono ?_); rintro e w' ⟨rfl, ⟨nd, rfl⟩⟩; refine ⟨_, rfl, ?_⟩) | ((with_reducible refine gate_callee (f := 54) rfl ?_); refine Short.goesS_ (some 21) Try.func54 #[.string a1] ?_; (with_reducible refine (offcutref02_size.calls a1 t708 _ A12.out).mono ?_); rintro e w' ⟨rfl, ⟨nd, rfl⟩⟩; refine ⟨_, rfl, ?_⟩) | ((with_reducible refine gate_callee (f := 57) rfl ?_); refine Short.goesS_ (some 22) Try.func57 #[.string t707, .string t708] ?_; (with_reducible refine (offcutref01_Less.calls t707 t708 false _ A13.out).mono ?_); rintro e w' ⟨rfl, ⟨nd, rfl⟩⟩; refine ⟨_, rfl, ?_⟩) | ((with_reducible refine gate_callee (f := 52) rfl ?_); refine Short.goesS_ (some 32) Try.func52 #[.string a0] ?_; (with_reducible refine (offcutref02_Below.calls a0 t715 _ A20.out).mono ?_); rintro e w' ⟨rfl, ⟨nd, rfl⟩⟩; refine ⟨_, rfl, ?_⟩) | ((with_reducible refine gate_callee (f := 54) rfl ?_); refine Short.goesS_ (some 34) Try.func54 #[.string a0] ?_; (with_reducible refine (offcutref02_size.calls a0 t716 _ A21.out).mono ?_); rintro e w' ⟨rfl, ⟨nd, rfl⟩⟩; refine ⟨_, rfl, ?_⟩) | ((with_reducible refine gate_callee (f := 54) rfl ?_); refine Short.goesS_ (some 36) Try.func54 #[.string a1] ?_; (with_reducible refine (offcutref02_size.calls a1 t717 _ A22.out).mono ?_); rintro e w' ⟨rfl, ⟨nd, rfl⟩⟩; refine ⟨_, rfl, ?_⟩) | ((with_reducible refine gate_callee (f := 58) rfl ?_); refine Short.goesS_ (some 37) Try.func58 #[.string t716, .string t717] ?_; (with_reducible refine (offcutref01_Sub.calls k t716 t717 t718 _ A23.out).mono ?_); rintro e w' ⟨rfl, ⟨nd, rfl⟩⟩; refine ⟨_, rfl, ?_⟩) | ((with_reducible refine gate_callee (f := 48) rfl ?_); refine Short.goesS_ (some 38) Try.func48 #[.bool t715, .string t718] ?_; (with_reducible refine (offcutref02_Made.calls t715 t718 t719 _ A24.out).mono ?_); rintro e w' ⟨rfl, ⟨nd, rfl⟩⟩; refine ⟨_, rfl, ?_⟩))
   go_ret
   exact ⟨by first | rfl | (simp; done) | (simp [*]; done), by repeat (first | exact Drawn0.refl _ | apply Drawn0.step)⟩

theorem offcutref02_Add.ev {a b : Int} {K : Nat} (ha : a.natAbs < 2 ^ (32 * K)) (hb : b.natAbs < 2 ^ (32 * K)) (hK : K < 1000000) : Ev (fun k => offcutref02_Add.f k (Zn.tz a) (Zn.tz b)) (Zn.tz (a + b)) := by
 have la := Dec.dc_len32 (n := a.natAbs) (k := K + 1) (by omega) (Num.le_pow ha (by omega))
 have lb := Dec.dc_len32 (n := b.natAbs) (k := K + 1) (by omega) (Num.le_pow hb (by omega))
 have ls := Dec.dc_len32 (n := a.natAbs + b.natAbs) (k := K + 1) (by omega) (Num.add_lt ha hb)
 have A := offcutref01_Add.ev (Dec.Ds_dc a.natAbs) (Dec.Ds_dc b.natAbs) (by omega) (by omega)
 rw [Dec.dv_dc, Dec.dv_dc] at A
 have Ba := offcutref02_Below.sem a
 have Bb := offcutref02_Below.sem b
 have Sa := offcutref02_size.sem a
 have Sb := offcutref02_size.sem b
 have L := offcutref01_Less.sem a.natAbs b.natAbs
 unfold offcutref02_Add.f
 refine Dec.val (fun _ => Ba) (Dec.val (fun _ => Bb) ?_)
 by_cases h : a < 0 ↔ b < 0
 ·have M := offcutref02_Made.sem (decide (a < 0)) (a.natAbs + b.natAbs) (by omega)
  rw [Zn.add_same h] at M
  exact Dec.yes (by rw [beq_iff_eq]; exact decide_eq_decide.2 h) (Dec.val (fun _ => Ba) (Dec.val (fun _ => Sa) (Dec.val (fun _ => Sb) (Ev.bind A (Dec.val (fun _ => M) (Ev.now _))))))
 ·refine Dec.no (by rw [beq_iff_eq]; exact fun e => h (decide_eq_decide.1 e)) (Dec.val (fun _ => Sa) (Dec.val (fun _ => Sb) (Dec.val (fun _ => L) ?_)))
  by_cases hl : a.natAbs < b.natAbs
  ·have S := offcutref01_Sub.ev_dec (m := b.natAbs) (n := a.natAbs) (by omega) (by omega)
   have ld := Dec.dc_len32 (n := b.natAbs - a.natAbs) (k := K + 1) (by omega) (Num.le_pow (show b.natAbs - a.natAbs < 2 ^ (32 * K) by omega) (by omega))
   have M := offcutref02_Made.sem (decide (b < 0)) (b.natAbs - a.natAbs) (by omega)
   rw [Zn.add_right h hl] at M
   exact Dec.yes (decide_eq_true hl) (Dec.val (fun _ => Bb) (Dec.val (fun _ => Sb) (Dec.val (fun _ => Sa) (Ev.bind S (Dec.val (fun _ => M) (Ev.now _))))))
  ·have S := offcutref01_Sub.ev_dec (m := a.natAbs) (n := b.natAbs) (by omega) (by omega)
   have ld := Dec.dc_len32 (n := a.natAbs - b.natAbs) (k := K + 1) (by omega) (Num.le_pow (show a.natAbs - b.natAbs < 2 ^ (32 * K) by omega) (by omega))
   have M := offcutref02_Made.sem (decide (a < 0)) (a.natAbs - b.natAbs) (by omega)
   rw [Zn.add_left h (by omega)] at M
   exact Dec.no (by rw [decide_eq_false hl]; decide) (Dec.val (fun _ => Ba) (Dec.val (fun _ => Sa) (Dec.val (fun _ => Sb) (Ev.bind S (Dec.val (fun _ => M) (Ev.now _))))))
/-! ### offcutref02_Neg: function 55 -/
def offcutref02_Neg.f (a0 : ByteArray) : Option (ByteArray) := (offcutref02_Below.f a0).bind fun t720 => ((offcutref02_size.f a0).bind fun t721 => ((offcutref02_Made.f (!t720) t721).bind fun t722 => (some t722)))
set_option maxHeartbeats 8000000 in
set_option maxRecDepth 100000 in
theorem offcutref02_Neg.calls (a0 : ByteArray) (r : ByteArray) (w : World) (h : offcutref02_Neg.f a0 = some r) :
  Calls Try.prog 55 #[.string a0] w fun e w' => e = .returned (.string r) ∧ Drawn0 w w' := by
 have H : ((offcutref02_Below.f a0).bind fun t720 => ((offcutref02_size.f a0).bind fun t721 => ((offcutref02_Made.f (!t720) t721).bind fun t722 => (some t722)))) = some r := h
 clear h
 replace H := Option.bind_eq_some_iff.mp H
 obtain ⟨t720, A20, H⟩ := H
 try dsimp only at H
 have A2 := Aside0.mk A20
 clear A20
 replace H := Option.bind_eq_some_iff.mp H
 obtain ⟨t721, A30, H⟩ := H
 try dsimp only at H
 have A3 := Aside0.mk A30
 clear A30
 replace H := Option.bind_eq_some_iff.mp H
 obtain ⟨t722, A40, H⟩ := H
 replace H : (some t722) = some r := H
 have A4 := Aside0.mk A40
 clear A40
 obtain rfl := Option.some.inj H
 go_enter Try.func55, Try.ntmps55
 go_wp2_with (first | ((with_reducible refine gate_callee (f := 52) rfl ?_); refine Short.goesS_ (some 4) Try.func52 #[.string a0] ?_; (with_reducible refine (offcutref02_Below.calls a0 t720 _ A2.out).mono ?_); rintro e w' ⟨rfl, ⟨nd, rfl⟩⟩; refine ⟨_, rfl, ?_⟩) | ((with_reducible refine gate_callee (f := 54) rfl ?_); refine Short.goesS_ (some 7) Try.func54 #[.string a0] ?_; (with_reducible refine (offcutref02_size.calls a0 t721 _ A3.out).mono ?_); rintro e w' ⟨rfl, ⟨nd, rfl⟩⟩; refine ⟨_, rfl, ?_⟩) | ((with_reducible refine gate_callee (f := 48) rfl ?_); refine Short.goesS_ (some 8) Try.func48 #[.bool (!t720), .string t721] ?_; (with_reducible refine (offcutref02_Made.calls (!t720) t721 t722 _ A4.out).mono ?_); rintro e w' ⟨rfl, ⟨nd, rfl⟩⟩; refine ⟨_, rfl, ?_⟩))
 go_ret
 exact ⟨by first | rfl | (simp; done) | (simp [*]; done), by repeat (first | exact Drawn0.refl _ | apply Drawn0.step)⟩

theorem offcutref02_Neg.sem (z : Int) (hz : (Dec.dc z.natAbs).length < 9000000000000000000) : offcutref02_Neg.f (Zn.tz z) = some (Zn.tz (-z)) := by
 unfold offcutref02_Neg.f
 rw [offcutref02_Below.sem, Option.bind_some, offcutref02_size.sem, Option.bind_some, offcutref02_Made.sem _ _ hz, Option.bind_some, Zn.zv_not, Zn.zv_self]
/-! ### offcutref02_Floor: function 18 -/
def offcutref02_Floor.j0 : Nat → ByteArray → ByteArray → ByteArray → Bool → Option (ByteArray × ByteArray)
 | 0, _, _, _, _ => none
 | k + 1, x1, x8, x9, x39 => if x39 = true then ((offcutref02_Add.f k x8 (⟨#[45, 49]⟩ : ByteArray)).bind fun t735 => ((offcutref02_Add.f k x9 x1).bind fun t736 => (some (t735, t736)))) else (some (x8, x9))
def offcutref02_Floor.f (k : Nat) (a0 : ByteArray) (a1 : ByteArray) : Option (ByteArray × ByteArray) := (offcutref02_size.f a0).bind fun t723 => ((offcutref02_size.f a1).bind fun t724 => ((offcutref01_DivMod.f k t723 t724).bind fun bt725 => ((offcutref02_Below.f a0).bind fun t727 => ((offcutref02_Below.f a1).bind fun t728 => ((offcutref02_Made.f (t727 != t728) bt725.1).bind fun t729 => ((offcutref02_Mul.f k a1 t729).bind fun t730 => ((offcutref02_Neg.f t730).bind fun t731 => ((offcutref02_Add.f k a0 t731).bind fun t732 => (if t732.toList = ([48] : List UInt8) then (offcutref02_Floor.j0 k a1 t729 t732 false) else ((offcutref02_Below.f t732).bind fun t733 => ((offcutref02_Below.f a1).bind fun t734 => (offcutref02_Floor.j0 k a1 t729 t732 (t733 != t734)))))))))))))
set_option maxHeartbeats 8000000 in
set_option maxRecDepth 100000 in
theorem offcutref02_Floor.calls (k : Nat) (a0 : ByteArray) (a1 : ByteArray) (r1 : ByteArray) (r2 : ByteArray) (w : World) (h : offcutref02_Floor.f k a0 a1 = some (r1, r2)) :
  Calls Try.prog 18 #[.string a0, .string a1] w fun e w' => e = .returned (.tuple #[.string r1, .string r2]) ∧ Below w.heap.size w w' := by
 have HB := Aside0.mk (Below.refl w.heap.size w)
 have H : ((offcutref02_size.f a0).bind fun t723 => ((offcutref02_size.f a1).bind fun t724 => ((offcutref01_DivMod.f k t723 t724).bind fun bt725 => ((offcutref02_Below.f a0).bind fun t727 => ((offcutref02_Below.f a1).bind fun t728 => ((offcutref02_Made.f (t727 != t728) bt725.1).bind fun t729 => ((offcutref02_Mul.f k a1 t729).bind fun t730 => ((offcutref02_Neg.f t730).bind fun t731 => ((offcutref02_Add.f k a0 t731).bind fun t732 => (if t732.toList = ([48] : List UInt8) then (offcutref02_Floor.j0 k a1 t729 t732 false) else ((offcutref02_Below.f t732).bind fun t733 => ((offcutref02_Below.f a1).bind fun t734 => (offcutref02_Floor.j0 k a1 t729 t732 (t733 != t734)))))))))))))) = some (r1, r2) := h
 clear h
 replace H := Option.bind_eq_some_iff.mp H
 obtain ⟨t723, A30, H⟩ := H
 try dsimp only at H
 have A3 := Aside0.mk A30
 clear A30
 replace H := Option.bind_eq_some_iff.mp H
 obtain ⟨t724, A40, H⟩ := H
 try dsimp only at H
 have A4 := Aside0.mk A40
 clear A40
 replace H := Option.bind_eq_some_iff.mp H
 obtain ⟨⟨t725, t726⟩, A50, H⟩ := H
 try dsimp only at H
 have A5 := Aside0.mk A50
 clear A50
 replace H := Option.bind_eq_some_iff.mp H
 obtain ⟨t727, A60, H⟩ := H
 try dsimp only at H
 have A6 := Aside0.mk A60
 clear A60
 replace H := Option.bind_eq_some_iff.mp H
 obtain ⟨t728, A70, H⟩ := H
 try dsimp only at H
 have A7 := Aside0.mk A70
 clear A70
 replace H := Option.bind_eq_some_iff.mp H
 obtain ⟨t729, A80, H⟩ := H
 try dsimp only at H
 have A8 := Aside0.mk A80
 clear A80
 replace H := Option.bind_eq_some_iff.mp H
 obtain ⟨t730, A90, H⟩ := H
 try dsimp only at H
 have A9 := Aside0.mk A90
 clear A90
 replace H := Option.bind_eq_some_iff.mp H
 obtain ⟨t731, A100, H⟩ := H
 try dsimp only at H
 have A10 := Aside0.mk A100
 clear A100
 replace H := Option.bind_eq_some_iff.mp H
 obtain ⟨t732, A110, H⟩ := H
 try dsimp only at H
 have A11 := Aside0.mk A110
 clear A110
 have HC12 := Aside0.mk H
 clear H
 go_enter Try.func18, Try.ntmps18
 go_upto_region 4 with (first | ((with_reducible refine gate_callee (f := 54) rfl ?_); refine Short.goesS_ (some 12) Try.func54 #[.string a0] ?_; (with_reducible refine (offcutref02_size.calls a0 t723 _ A3.out).mono ?_); rintro e w' ⟨rfl, ⟨nd, rfl⟩⟩; refine ⟨_, rfl, ?_⟩) | ((with_reducible refine gate_callee (f := 54) rfl ?_); refine Short.goesS_ (some 14) Try.func54 #[.string a1] ?_; (with_reducible refine (offcutref02_size.calls a1 t724 _ A4.out).mono ?_); rintro e w' ⟨rfl, ⟨nd, rfl⟩⟩; refine ⟨_, rfl, ?_⟩) | ((with_reducible refine gate_callee (f := 53) rfl ?_); refine Short.goesS_ (some 15) Try.func53 #[.string t723, .string t724] ?_; (with_reducible refine (offcutref01_DivMod.calls k t723 t724 t725 t726 _ A5.out).mono ?_); rintro e w' ⟨rfl, ⟨nd, rfl⟩⟩; refine ⟨_, rfl, ?_⟩) | ((with_reducible refine gate_callee (f := 52) rfl ?_); refine Short.goesS_ (some 19) Try.func52 #[.string a0] ?_; (with_reducible refine (offcutref02_Below.calls a0 t727 _ A6.out).mono ?_); rintro e w' ⟨rfl, ⟨nd, rfl⟩⟩; refine ⟨_, rfl, ?_⟩) | ((with_reducible refine gate_callee (f := 52) rfl ?_); refine Short.goesS_ (some 21) Try.func52 #[.string a1] ?_; (with_reducible refine (offcutref02_Below.calls a1 t728 _ A7.out).mono ?_); rintro e w' ⟨rfl, ⟨nd, rfl⟩⟩; refine ⟨_, rfl, ?_⟩) | ((with_reducible refine gate_callee (f := 48) rfl ?_); refine Short.goesS_ (some 24) Try.func48 #[.bool (t727 != t728), .string t725] ?_; (with_reducible refine (offcutref02_Made.calls (t727 != t728) t725 t729 _ A8.out).mono ?_); rintro e w' ⟨rfl, ⟨nd, rfl⟩⟩; refine ⟨_, rfl, ?_⟩) | ((with_reducible refine gate_callee (f := 50) rfl ?_); refine Short.goesS_ (some 28) Try.func50 #[.string a1, .string t729] ?_; (with_reducible refine (offcutref02_Mul.calls k a1 t729 t730 _ A9.out).mono ?_); rintro e w13 ⟨rfl, hb⟩; refine ⟨_, rfl, ?_⟩; replace HB := Aside0.mk (below_step (by repeat (first | (with_reducible first | exact HB.out | apply below_alloc | apply pw_below_drewN | apply below_drew1) | exact HB.out)) hb); (try clear hb)) | ((with_reducible refine gate_callee (f := 55) rfl ?_); refine Short.goesS_ (some 29) Try.func55 #[.string t730] ?_; (with_reducible refine (offcutref02_Neg.calls t730 t731 _ A10.out).mono ?_); rintro e w' ⟨rfl, ⟨nd, rfl⟩⟩; refine ⟨_, rfl, ?_⟩) | ((with_reducible refine gate_callee (f := 19) rfl ?_); refine Short.goesS_ (some 30) Try.func19 #[.string a0, .string t731] ?_; (with_reducible refine (offcutref02_Add.calls k a0 t731 t732 _ A11.out).mono ?_); rintro e w' ⟨rfl, ⟨nd, rfl⟩⟩; refine ⟨_, rfl, ?_⟩))
 (try simp only [Act.put, List.setIfInBounds_toArray, List.set_cons_zero, List.set_cons_succ])
 go_cut [39] (fun v39 wc => ∃ (kq : Nat) (x39_11 : Bool), v39 = .bool x39_11 ∧ Aside0 (offcutref02_Floor.j0 kq a1 t729 t732 x39_11 = some (r1, r2)) ∧ Aside0 (kq ≤ k) ∧ Aside0 (Below w.heap.size w wc))
 case first =>
  have H := HC12.out
  clear HC12
  by_cases c14 : t732.toList = ([48] : List UInt8)
  ·rw [if_pos c14] at H
   have c14b0 : (t732.toList == ([48] : List UInt8)) = true := beq_iff_eq.mpr c14
   have c14b1 : (t732.toList != ([48] : List UInt8)) = false := bne_eq_false_iff_eq.mpr c14
   clear c14
   (first | rw [c14b0] | (simp only [i64_w, i32_w]; rw [c14b0]) | skip)
   have H' := Aside0.mk H
   clear H
   go_wp2
   go_meet
   case rel => exact ⟨_, (false), (by first | rfl | (simp; done) | (simp [*]; done)), H', ⟨by first | omega | exact Nat.le_refl _⟩, ⟨by repeat (first | (with_reducible first | exact HB.out | apply below_alloc | apply pw_below_drewN | apply below_drew1) | exact HB.out)⟩⟩
  ·rw [if_neg c14] at H
   have c14b0 : (t732.toList == ([48] : List UInt8)) = false := beq_eq_false_iff_ne.mpr c14
   have c14b1 : (t732.toList != ([48] : List UInt8)) = true := bne_iff_ne.mpr c14
   (first | rw [c14b0] | (simp only [i64_w, i32_w]; rw [c14b0]) | skip)
   replace H := Option.bind_eq_some_iff.mp H
   obtain ⟨t733, A150, H⟩ := H
   try dsimp only at H
   have A15 := Aside0.mk A150
   clear A150
   replace H := Option.bind_eq_some_iff.mp H
   obtain ⟨t734, A160, H⟩ := H
   try dsimp only at H
   have A16 := Aside0.mk A160
   clear A160
   have H' := Aside0.mk H
   clear H
   go_wp2_with (first | (go_at_call 52; (with_reducible refine (offcutref02_Below.calls t732 t733 _ A15.out).mono ?_); rintro e w' ⟨rfl, ⟨nd, rfl⟩⟩) | (go_at_call 52; (with_reducible refine (offcutref02_Below.calls a1 t734 _ A16.out).mono ?_); rintro e w' ⟨rfl, ⟨nd, rfl⟩⟩))
   go_meet
   case rel => exact ⟨_, ((t733 != t734)), (by first | rfl | (simp; done) | (simp [*]; done)), H', ⟨by first | omega | exact Nat.le_refl _⟩, ⟨by repeat (first | (with_reducible first | exact HB.out | apply below_alloc | apply pw_below_drewN | apply below_drew1) | exact HB.out)⟩⟩
 case rest =>
  clear HC12
  try clear c1
  try clear p2
  try clear c4
  try clear c5
  try clear c14
  try clear c14b0
  try clear c14b1
  obtain ⟨kq, x39_11, rfl, HA, HJ11, HB⟩ := hcut
  cases kq with
  | zero => exact absurd HA.out (by simp [offcutref02_Floor.j0])
  | succ kj11 =>
   have H := HA.out
   clear HA
   simp only [offcutref02_Floor.j0] at H
   by_cases c17 : x39_11 = true
   ·subst c17
    have H1 : ((offcutref02_Add.f kj11 t729 (⟨#[45, 49]⟩ : ByteArray)).bind fun t735 => ((offcutref02_Add.f kj11 t732 a1).bind fun t736 => (some (t735, t736)))) = some (r1, r2) := by rw [if_pos rfl] at H; exact H
    clear H
    have H := H1
    clear H1
    replace H := Option.bind_eq_some_iff.mp H
    obtain ⟨t735, A180, H⟩ := H
    try dsimp only at H
    have A18 := Aside0.mk A180
    clear A180
    replace H := Option.bind_eq_some_iff.mp H
    obtain ⟨t736, A190, H⟩ := H
    replace H : (some (t735, t736)) = some (r1, r2) := H
    have A19 := Aside0.mk A190
    clear A190
    simp only [Option.some.injEq, Prod.mk.injEq] at H
    obtain ⟨rfl, rfl⟩ := H
    go_wp2_with (first | ((with_reducible refine gate_callee (f := 19) rfl ?_); refine Short.goesS_ (some 41) Try.func19 #[.string t729, .string (⟨#[45, 49]⟩ : ByteArray)] ?_; (with_reducible refine (offcutref02_Add.calls kj11 t729 (⟨#[45, 49]⟩ : ByteArray) t735 _ A18.out).mono ?_); rintro e w' ⟨rfl, ⟨nd, rfl⟩⟩; refine ⟨_, rfl, ?_⟩) | ((with_reducible refine gate_callee (f := 19) rfl ?_); refine Short.goesS_ (some 44) Try.func19 #[.string t732, .string a1] ?_; (with_reducible refine (offcutref02_Add.calls kj11 t732 a1 t736 _ A19.out).mono ?_); rintro e w' ⟨rfl, ⟨nd, rfl⟩⟩; refine ⟨_, rfl, ?_⟩))
    go_ret2
    exact ⟨by rfl, by repeat (first | (with_reducible first | exact HB.out | apply below_alloc | apply pw_below_drewN | apply below_drew1) | exact HB.out)⟩
   ·replace c17 := Bool.eq_false_iff.mpr c17
    subst c17
    have H1 : (some (t729, t732)) = some (r1, r2) := by rw [if_neg (show ¬ (false = true) by decide)] at H; exact H
    clear H
    have H := H1
    clear H1
    simp only [Option.some.injEq, Prod.mk.injEq] at H
    obtain ⟨rfl, rfl⟩ := H
    go_wp2
    go_ret2
    exact ⟨by rfl, by repeat (first | (with_reducible first | exact HB.out | apply below_alloc | apply pw_below_drewN | apply below_drew1) | exact HB.out)⟩

theorem offcutref02_Floor.ev {a b : Int} {K : Nat} (ha : a.natAbs < 2 ^ (32 * K)) (hb : b.natAbs < 2 ^ (32 * K)) (hK1 : 1 ≤ K) (hK : K < 400000) (h0 : b ≠ 0) : Ev (fun k => offcutref02_Floor.f k (Zn.tz a) (Zn.tz b)) (Zn.tz (Zn.fl a b).1, Zn.tz (Zn.fl a b).2) := by
 have la := Dec.dc_len32 (n := a.natAbs) hK1 ha
 have lb := Dec.dc_len32 (n := b.natAbs) hK1 hb
 have D := offcutref01_DivMod.ev (x := a.natAbs) (y := b.natAbs) (by omega) (by omega) (by omega)
 have hq : (Zn.flq a b).natAbs < 2 ^ (32 * K) := by
  unfold Zn.flq
  rw [Zn.natAbs_zv]
  exact Nat.lt_of_le_of_lt (Nat.div_le_self _ _) ha
 have lq := Dec.dc_len32 (n := a.natAbs / b.natAbs) hK1 (Nat.lt_of_le_of_lt (Nat.div_le_self _ _) ha)
 have d : Zn.zv (decide (a < 0) != decide (b < 0)) (a.natAbs / b.natAbs) = Zn.flq a b := by
  unfold Zn.flq
  by_cases hz : a.natAbs / b.natAbs = 0
  ·rw [hz, Zn.zv_zero, Zn.zv_zero]
  ·have a0 : a ≠ 0 := fun e => hz (by rw [e]; exact Nat.zero_div _)
   congr 1
   by_cases ha0 : a < 0
   ·by_cases hb0 : b < 0
    ·have := Int.mul_pos_of_neg_of_neg ha0 hb0
     rw [decide_eq_true ha0, decide_eq_true hb0, decide_eq_false (by omega)]
     rfl
    ·have := Int.mul_neg_of_neg_of_pos ha0 (show 0 < b by omega)
     rw [decide_eq_true ha0, decide_eq_false hb0, decide_eq_true this]
     rfl
   ·by_cases hb0 : b < 0
    ·have := Int.mul_neg_of_pos_of_neg (show 0 < a by omega) hb0
     rw [decide_eq_false ha0, decide_eq_true hb0, decide_eq_true this]
     rfl
    ·have := Int.mul_pos (show 0 < a by omega) (show 0 < b by omega)
     rw [decide_eq_false ha0, decide_eq_false hb0, decide_eq_false (by omega)]
     rfl
 have M := offcutref02_Made.sem (decide (a < 0) != decide (b < 0)) (a.natAbs / b.natAbs) (by omega)
 rw [d] at M
 have hm : (b * Zn.flq a b).natAbs < 2 ^ (32 * (K + K)) := Zn.abs_mul hb hq
 have lm := Dec.dc_len32 (n := (b * Zn.flq a b).natAbs) (k := K + K) (by omega) hm
 have P := offcutref02_Mul.ev hb hq (by omega)
 have N := offcutref02_Neg.sem (b * Zn.flq a b) (by omega)
 have A := offcutref02_Add.ev (Zn.abs_le ha (show K ≤ K + K by omega)) (Zn.abs_neg hm) (by omega)
 have er : a + -(b * Zn.flq a b) = Zn.flr a b := by unfold Zn.flr; omega
 rw [er] at A
 have hr : (Zn.flr a b).natAbs < 2 ^ (32 * K) := Nat.lt_trans (Zn.flr_lt a b h0) hb
 have J0 : (¬ Zn.flr a b * b < 0) → Ev (fun k => offcutref02_Floor.j0 k (Zn.tz b) (Zn.tz (Zn.flq a b)) (Zn.tz (Zn.flr a b)) false) (Zn.tz (Zn.fl a b).1, Zn.tz (Zn.fl a b).2) := by
  intro hn
  have e1 : Zn.fl a b = (Zn.flq a b, Zn.flr a b) := if_neg hn
  rw [e1]
  exact Ev.step (f := fun _ => some (Zn.tz (Zn.flq a b), Zn.tz (Zn.flr a b))) (fun k => by rw [offcutref02_Floor.j0, if_neg (by decide)]) (Ev.now _)
 have J1 : Zn.flr a b * b < 0 → Ev (fun k => offcutref02_Floor.j0 k (Zn.tz b) (Zn.tz (Zn.flq a b)) (Zn.tz (Zn.flr a b)) true) (Zn.tz (Zn.fl a b).1, Zn.tz (Zn.fl a b).2) := by
  intro hn
  have e1 : Zn.fl a b = (Zn.flq a b - 1, a - b * (Zn.flq a b - 1)) := if_pos hn
  rw [e1]
  have m1 : Zn.tz (-1) = (⟨#[45, 49]⟩ : ByteArray) := by
   rw [Zn.tz_neg (by omega), show (-1 : Int).natAbs = 1 from rfl, Dec.dec_one]
   rfl
  have h1 : (-1 : Int).natAbs < 2 ^ (32 * K) := by
   show 1 < _
   exact Nat.lt_of_lt_of_le (show 1 < 2 ^ 32 by decide) (Nat.pow_le_pow_right (by omega) (by omega))
  have A1 := offcutref02_Add.ev hq h1 (by omega)
  have A2 := offcutref02_Add.ev hr hb (by omega)
  rw [m1, show Zn.flq a b + -1 = Zn.flq a b - 1 from by omega] at A1
  rw [show Zn.flr a b + b = a - b * (Zn.flq a b - 1) from by unfold Zn.flr; rw [Int.mul_sub]; omega] at A2
  exact Ev.step (f := fun k => (offcutref02_Add.f k (Zn.tz (Zn.flq a b)) (⟨#[45, 49]⟩ : ByteArray)).bind fun t526 => (offcutref02_Add.f k (Zn.tz (Zn.flr a b)) (Zn.tz b)).bind fun t527 => some (t526, t527)) (fun k => by rw [offcutref02_Floor.j0, if_pos rfl]) (Ev.bind A1 (Ev.bind A2 (Ev.now _)))
 unfold offcutref02_Floor.f
 refine Dec.val (fun _ => offcutref02_size.sem a) (Dec.val (fun _ => offcutref02_size.sem b) (Ev.bind D (Dec.val (fun _ => offcutref02_Below.sem a) (Dec.val (fun _ => offcutref02_Below.sem b) (Dec.val (fun _ => M) (Ev.bind P (Dec.val (fun _ => N) (Ev.bind A ?_))))))))
 by_cases hz : Zn.flr a b = 0
 ·exact Dec.yes ((Zn.tz_is0 _).2 hz) (J0 (by rw [hz, Int.zero_mul]; omega))
 ·refine Dec.no (fun e => hz ((Zn.tz_is0 _).1 e)) (Dec.val (fun _ => offcutref02_Below.sem (Zn.flr a b)) (Dec.val (fun _ => offcutref02_Below.sem b) ?_))
  by_cases hn : Zn.flr a b * b < 0
  ·have e : (decide (Zn.flr a b < 0) != decide (b < 0)) = true := by
    rcases Zn.mul_neg_cases hn with ⟨h1, h2⟩ | ⟨h1, h2⟩
    ·rw [decide_eq_true h1, decide_eq_false (by omega)]; rfl
    ·rw [decide_eq_false (by omega), decide_eq_true h2]; rfl
   rw [e]
   exact J1 hn
  ·have e : (decide (Zn.flr a b < 0) != decide (b < 0)) = false := by
    by_cases h1 : Zn.flr a b < 0
    ·by_cases h2 : b < 0
     ·rw [decide_eq_true h1, decide_eq_true h2]; rfl
     ·exact absurd (Int.mul_neg_of_neg_of_pos h1 (show 0 < b by omega)) hn
    ·by_cases h2 : b < 0
     ·exact absurd (Int.mul_neg_of_pos_of_neg (show 0 < Zn.flr a b by omega) h2) hn
     ·rw [decide_eq_false h1, decide_eq_false h2]; rfl
   rw [e]
   exact J0 hn
end Go.Proofs.Ytcdkopidgibijaa.PR
