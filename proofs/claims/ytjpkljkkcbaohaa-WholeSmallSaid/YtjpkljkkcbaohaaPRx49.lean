import Derived.Test.YtjpkljkkcbaohaaPRg0
import Derived.Test.YtjpkljkkcbaohaaPRg41
namespace Go.Proofs.Ytjpkljkkcbaohaa.PR
open Go.RowKit Go.Proofs.YtjpkljkkcbaohaaW.PrintWords Go.Proofs.YtjpkljkkcbaohaaW.PrintLast Go.Proofs.YtjpkljkkcbaohaaW.PrintMore
attribute [local go_sem] max2_int min2_int max_two min_two max_three min_three max_four min_four   -- for this text's walks alone
set_option linter.unusedVariables false
set_option linter.unusedSimpArgs false

/-! ### offcutref02_Less: function 28 -/
def offcutref02_Less.f (k : Nat) (a0 : ByteArray) (a1 : ByteArray) : Option (Bool) := (offcutref02_Neg.f a1).bind fun t485 => ((offcutref02_Add.f k a0 t485).bind fun t486 => ((offcutref02_Below.f t486).bind fun t487 => (some t487)))
theorem offcutref02_Less.mono : ∀ a0 a1 k, LeO (offcutref02_Less.f k a0 a1) (offcutref02_Less.f (k + 1) a0 a1) := by
  intro a0 a1 k
  unfold offcutref02_Less.f
  repeat' first
      | (with_reducible exact offcutref02_Add.mono _ _ _)
      | (with_reducible exact LeO.refl _)
      | (with_reducible exact LeO.none _)
      | (with_reducible refine LeO.ite ?_ ?_)
      | (with_reducible refine LeO.bind ?_ (fun _ => ?_))
      | exact offcutref02_Add.mono _ _ _
      | exact LeO.none _
      | refine LeO.ite ?_ ?_
      | refine LeO.bind ?_ (fun _ => ?_)
set_option maxHeartbeats 8000000 in
set_option maxRecDepth 100000 in
theorem offcutref02_Less.calls (k : Nat) (a0 : ByteArray) (a1 : ByteArray) (r : Bool) (w : World) (h : offcutref02_Less.f k a0 a1 = some r) :
    Calls Try.prog 28 #[.string a0, .string a1] w fun e w' => e = .returned (.bool r) ∧ Drawn0 w w' := by
  have H : ((offcutref02_Neg.f a1).bind fun t485 => ((offcutref02_Add.f k a0 t485).bind fun t486 => ((offcutref02_Below.f t486).bind fun t487 => (some t487)))) = some r := h
  clear h
  replace H := Option.bind_eq_some_iff.mp H
  obtain ⟨t485, A30, H⟩ := H
  replace H : ((offcutref02_Add.f k a0 t485).bind fun t486 => ((offcutref02_Below.f t486).bind fun t487 => (some t487))) = some r := H
  have A3 := Aside0.mk A30
  clear A30
  replace H := Option.bind_eq_some_iff.mp H
  obtain ⟨t486, A40, H⟩ := H
  replace H : ((offcutref02_Below.f t486).bind fun t487 => (some t487)) = some r := H
  have A4 := Aside0.mk A40
  clear A40
  replace H := Option.bind_eq_some_iff.mp H
  obtain ⟨t487, A50, H⟩ := H
  replace H : (some t487) = some r := H
  have A5 := Aside0.mk A50
  clear A50
  obtain rfl := Option.some.inj H
  go_enter Try.func28, Try.ntmps28
  go_wp2_with (first | ((with_reducible refine gate_callee (f := 24) rfl ?_); refine goesL_ (some 7) rfl rfl Try.func24 (by kernel_rfl) rfl #[.string a1] rfl (by (try simp only [List.map_toArray, List.map_cons, List.map_nil]); first | done | rfl | (simp only [List.length_drop, List.length_take]; rfl)) ?_; (with_reducible refine (offcutref02_Neg.calls a1 t485 _ A3.out).mono ?_); rintro e w' ⟨rfl, ⟨nd, rfl⟩⟩; refine ⟨_, rfl, ?_⟩) | ((with_reducible refine gate_callee (f := 22) rfl ?_); refine goesL_ (some 8) rfl rfl Try.func22 (by kernel_rfl) rfl #[.string a0, .string t485] rfl (by (try simp only [List.map_toArray, List.map_cons, List.map_nil]); first | done | rfl | (simp only [List.length_drop, List.length_take]; rfl)) ?_; (with_reducible refine (offcutref02_Add.calls k a0 t485 t486 _ A4.out).mono ?_); rintro e w' ⟨rfl, ⟨nd, rfl⟩⟩; refine ⟨_, rfl, ?_⟩) | ((with_reducible refine gate_callee (f := 29) rfl ?_); refine goesL_ (some 9) rfl rfl Try.func29 (by kernel_rfl) rfl #[.string t486] rfl (by (try simp only [List.map_toArray, List.map_cons, List.map_nil]); first | done | rfl | (simp only [List.length_drop, List.length_take]; rfl)) ?_; (with_reducible refine (offcutref02_Below.calls t486 t487 _ A5.out).mono ?_); rintro e w' ⟨rfl, ⟨nd, rfl⟩⟩; refine ⟨_, rfl, ?_⟩))
  go_ret
  exact ⟨by first | rfl | (simp; done) | (simp [*]; done), by repeat (first | exact Drawn0.refl _ | apply Drawn0.step)⟩

theorem offcutref02_Less.ev {a b : Int} {K : Nat} (ha : a.natAbs < 2 ^ (32 * K)) (hb : b.natAbs < 2 ^ (32 * K)) (hK : K < 1000000) : Ev (fun k => offcutref02_Less.f k (Zn.tz a) (Zn.tz b)) (decide (a < b)) := by
  have lb := Dec.dc_len32 (n := b.natAbs) (k := K + 1) (by omega) (Num.le_pow hb (by omega))
  have B := offcutref02_Below.sem (a + -b)
  rw [show decide (a + -b < 0) = decide (a < b) from decide_eq_decide.2 (by omega)] at B
  unfold offcutref02_Less.f
  exact Dec.val (fun _ => offcutref02_Neg.sem b (by omega)) (Ev.bind (offcutref02_Add.ev ha (Zn.abs_neg hb) hK) (Dec.val (fun _ => B) (Ev.now _)))

end Go.Proofs.Ytjpkljkkcbaohaa.PR
