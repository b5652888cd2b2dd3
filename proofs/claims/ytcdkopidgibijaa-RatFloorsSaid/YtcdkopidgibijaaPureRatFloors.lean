import Derived.Test.YtcdkopidgibijaaPRx82
import Derived.Test.YtcdkopidgibijaaPRg32
namespace Go.Proofs.Ytcdkopidgibijaa.Pure
open Go.RowKit Go.Proofs.Ytcdkopidgibijaa.PR Go.Proofs.YtcdkopidgibijaaW.PrintWords Go.Proofs.YtcdkopidgibijaaW.PrintLast Go.Proofs.YtcdkopidgibijaaW.PrintMore

theorem RatFloors.ws {l : List Int} (h : ∀ x ∈ l, (Lit.int .u32 x).wf = true) : Num.Ws l := fun x hx => by
  have := h x hx
  simp [Lit.wf, IntKind.min, IntKind.max, IntKind.signed, IntKind.bits] at this
  omega
theorem RatFloors.few_ (m : Bool) (l1 l2 : List Int) : offcutlaw03_few.f m l1 l2 = some (decide (l1.length ≤ 4 ∧ l2.length ≤ 4)) := by
  unfold offcutlaw03_few.f
  by_cases h : l1.length ≤ 4
  · rw [if_pos (by omega)]
    congr 1
    exact decide_eq_decide.2 ⟨fun e => ⟨h, by omega⟩, fun e => by omega⟩
  · rw [if_neg (by omega), decide_eq_false (fun e => h e.1)]
theorem RatFloors.nonneg {x : Rat} (h : 0 ≤ x) : x.num.sign ≥ 0 := by
  have := Rat.num_nonneg.2 h
  rcases Zn.sign_cases x.num with ⟨h1, e⟩ | ⟨h1, e⟩ | ⟨h1, e⟩ <;> omega
theorem RatFloors.neg {x : Rat} (h : x < 0) : x.num.sign < 0 := by
  have h2 : ¬ 0 ≤ x.num := fun e => absurd (Rat.num_nonneg.1 e) (Rat.not_le.2 h)
  rcases Zn.sign_cases x.num with ⟨h1, e⟩ | ⟨h1, e⟩ | ⟨h1, e⟩ <;> omega
theorem RatFloors.sub_neg {x y : Rat} (h : x < y) : x - y < 0 := by grind
theorem RatFloors.sub_nonneg {x y : Rat} (h : y ≤ x) : 0 ≤ x - y := by grind
theorem RatFloors (m0 : Bool) (l0 d0 : List Int) (h0 : ∀ x ∈ l0, (Lit.int .u32 x).wf = true) (g0 : ∀ x ∈ d0, (Lit.int .u32 x).wf = true) : ∃ k, offcutlaw03_RatFloors.f k m0 l0 d0 = some true := by
  have W0 := RatFloors.ws h0
  have V0 := RatFloors.ws g0
  clear h0 g0
  refine Ev.rounds ?_
  have A := offcutlaw03_awake.ev
  unfold offcutlaw03_RatFloors.f
  refine Dec.val (fun _ => RatFloors.few_ m0 l0 d0) ?_
  by_cases c0 : l0.length ≤ 4 ∧ d0.length ≤ 4
  rotate_left
  · exact Dec.no (by rw [decide_eq_false c0]; decide) (Dec.end_ A)
  refine Dec.yes (decide_eq_true c0) ?_
  obtain ⟨K, hK⟩ : ∃ K : Nat, K = 4 := ⟨4, rfl⟩
  rw [← hK] at c0
  obtain ⟨a, I0⟩ : ∃ a, Qn.Is m0 l0 d0 a K := ⟨_, Qn.Is.of W0 V0 c0.1 c0.2⟩
  have sa := I0.sm (by omega)
  have F := rat_Floor.ev I0 (by omega) (by omega)
  have C := rat_Ceil.ev I0 (by omega) (by omega)
  have sf := rat_Floor.size sa
  have sc : a.ceil.natAbs < 2 ^ (32 * (K + 1)) := by
    rw [Rat.ceil_eq_neg_floor_neg]
    exact Zn.abs_neg (rat_Floor.size sa.neg)
  have N1 : Ev (fun k => nat_Of.f k 1) (Num.nd 1) := nat_Of.ev 1 (by omega)
  have low := rat_Make.ev (Zn.Is.zd sf) (Num.Ws_nd 1) (Num.nd_length_le (Num.le_pow (k := 1) (by decide) (show 1 ≤ K + 1 by omega))) (by omega) (by omega)
  have high := rat_Make.ev (Zn.Is.zd sc) (Num.Ws_nd 1) (Num.nd_length_le (Num.le_pow (k := 1) (by decide) (show 1 ≤ K + 1 by omega))) (by omega) (by omega)
  rw [Num.nv_nd, Qn.dn_self (by decide), Qn.mk_one] at low high
  have sl := Qn.Sm.int sf (by omega)
  have sh := Qn.Sm.int sc (by omega)
  have L := rat_Sub.ev I0 (Qn.Is.qd sl) (by omega) (by omega) (by omega)
  have Il := Qn.Is.qd (sa.sub sl)
  have R := rat_Int.ev 1 (by omega) (by omega)
  have I1 := Qn.Is.qd (rat_Of.sm (n := 1) (by omega) (by omega))
  have C1 := rat_Compare.ev Il I1 (by omega) (by omega) (by omega)
  have C2 := rat_Compare.ev (Qn.Is.qd sh) I0 (by omega) (by omega) (by omega)
  have U := rat_Sub.ev (Qn.Is.qd sh) I0 (by omega) (by omega) (by omega)
  have C3 := rat_Compare.ev (Qn.Is.qd (sh.sub sa)) I1 (by omega) (by omega) (by omega)
  have f1 := Rat.floor_le a
  have f2 := Rat.lt_floor_add_one a
  have f3 := Rat.le_ceil (x := a)
  have f4 := Rat.ceil_lt (x := a)
  refine Ev.bind F (Ev.bind N1 (Ev.bind low (Ev.bind C (Ev.bind N1 (Ev.bind high (Ev.bind L (Ev.bind (rat_Sign.ev Il (by omega)) (Dec.yes (RatFloors.nonneg (RatFloors.sub_nonneg f1)) (Ev.bind R (Ev.bind C1 (Dec.yes (RatFloors.neg (RatFloors.sub_neg ?_)) (Ev.bind C2 (Dec.yes (RatFloors.nonneg (RatFloors.sub_nonneg f3)) (Ev.bind U (Ev.bind R (Ev.bind C3 (Dec.yes (RatFloors.neg (RatFloors.sub_neg ?_)) (Dec.end_ A))))))))))))))))))
  · rw [Rat.intCast_add] at f2
    grind
  · grind

end Go.Proofs.Ytcdkopidgibijaa.Pure
