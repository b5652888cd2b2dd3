import Derived.Test.YtcdkopidgibijaaPRg2
import Derived.Test.YtcdkopidgibijaaPRg1
namespace Go.Proofs.Ytcdkopidgibijaa.Pure
open Go.RowKit Go.Proofs.Ytcdkopidgibijaa.PR Go.Proofs.YtcdkopidgibijaaW.PrintWords Go.Proofs.YtcdkopidgibijaaW.PrintLast Go.Proofs.YtcdkopidgibijaaW.PrintMore

theorem RatSums.ws {l : List Int} (h : ∀ x ∈ l, (Lit.int .u32 x).wf = true) : Num.Ws l := fun x hx => by
  have := h x hx
  simp [Lit.wf, IntKind.min, IntKind.max, IntKind.signed, IntKind.bits] at this
  omega
theorem RatSums.few_ (m : Bool) (l1 l2 : List Int) : offcutlaw03_few.f m l1 l2 = some (decide (l1.length ≤ 4 ∧ l2.length ≤ 4)) := by
  unfold offcutlaw03_few.f
  by_cases h : l1.length ≤ 4
  · rw [if_pos (by omega)]
    congr 1
    exact decide_eq_decide.2 ⟨fun e => ⟨h, by omega⟩, fun e => by omega⟩
  · rw [if_neg (by omega), decide_eq_false (fun e => h e.1)]
theorem RatSums.is_ {r : Rat} {K : Nat} (h : Qn.Sm r K) (hK1 : 1 ≤ K) (hK : K < 300000) {v : Bool} {A B : Nat → Option Bool} (k : Ev A v) : Ev (fun k => (offcutlaw03_Is.f k (Qn.qd r).1 (Qn.qd r).2.1 (Qn.qd r).2.2 (Zn.tz r.num) (Dec.dec r.den)).bind fun t => if t = true then A k else B k) v := by
  have := offcutlaw03_Is.ev (s := r) h hK1 hK
  rw [decide_eq_true rfl] at this
  exact Ev.bind this (Dec.yes rfl k)
theorem RatSums (m0 : Bool) (l0 d0 : List Int) (m1 : Bool) (l1 d1 : List Int) (h0 : ∀ x ∈ l0, (Lit.int .u32 x).wf = true) (g0 : ∀ x ∈ d0, (Lit.int .u32 x).wf = true) (h1 : ∀ x ∈ l1, (Lit.int .u32 x).wf = true) (g1 : ∀ x ∈ d1, (Lit.int .u32 x).wf = true) : ∃ k, offcutlaw03_RatSums.f k m0 l0 d0 m1 l1 d1 = some true := by
  have W0 := RatSums.ws h0
  have V0 := RatSums.ws g0
  have W1 := RatSums.ws h1
  have V1 := RatSums.ws g1
  clear h0 g0 h1 g1
  refine Ev.rounds ?_
  have A := offcutlaw03_awake.ev
  have early : Ev (fun k => offcutlaw03_RatSums.j0 k true m0 l0 d0 m1 l1 d1) true :=
    Ev.step (f := fun k => (offcutlaw03_awake.f k).bind fun t => some t) (fun k => by rw [offcutlaw03_RatSums.j0, if_pos rfl]) (Dec.end_ A)
  unfold offcutlaw03_RatSums.f
  refine Dec.val (fun _ => RatSums.few_ m0 l0 d0) ?_
  by_cases c0 : l0.length ≤ 4 ∧ d0.length ≤ 4
  rotate_left
  · exact Dec.no (by rw [decide_eq_false c0]; decide) early
  refine Dec.yes (decide_eq_true c0) (Dec.val (fun _ => RatSums.few_ m1 l1 d1) ?_)
  by_cases c1 : l1.length ≤ 4 ∧ d1.length ≤ 4
  rotate_left
  · rw [decide_eq_false c1]
    exact early
  rw [decide_eq_true c1]
  refine Ev.congr (f := fun k => offcutlaw03_RatSums.j0 k false m0 l0 d0 m1 l1 d1) (fun _ => rfl) ?_
  obtain ⟨K, hK⟩ : ∃ K : Nat, K = 4 := ⟨4, rfl⟩
  rw [← hK] at c0 c1
  obtain ⟨a, I0⟩ : ∃ a, Qn.Is m0 l0 d0 a K := ⟨_, Qn.Is.of W0 V0 c0.1 c0.2⟩
  obtain ⟨b, I1⟩ : ∃ b, Qn.Is m1 l1 d1 b K := ⟨_, Qn.Is.of W1 V1 c1.1 c1.2⟩
  have O0 := offcutlaw03_Of.ev I0 (by omega) (by omega)
  have O1 := offcutlaw03_Of.ev I1 (by omega) (by omega)
  have sa := I0.sm (by omega)
  have sb := I1.sm (by omega)
  have P1 := offcutref03_Add.ev sa sb (by omega) (by omega) (by omega)
  have P2 := offcutref03_Add.ev sa sb.neg (by omega) (by omega) (by omega)
  have P3 := offcutref03_Mul.ev sa sb (by omega) (by omega)
  have P4 := offcutref03_Add.ev (sa.add sb) sa (by omega) (by omega) (by omega)
  have S := rat_Sub.ev I0 I1 (by omega) (by omega) (by omega)
  rw [Rat.sub_eq_add_neg] at S
  have n5 : Ev (fun k => (rat_Sum.f k m0 l0 d0 m1 l1 d1 m0 l0 d0).bind fun bt1246 => (offcutref03_Add.f k (Zn.tz a.num) (Dec.dec a.den) (Zn.tz b.num) (Dec.dec b.den)).bind fun bt1253 => (offcutref03_Add.f k bt1253.1 bt1253.2 (Zn.tz a.num) (Dec.dec a.den)).bind fun bt1255 => (offcutlaw03_Is.f k bt1246.1 bt1246.2.1 bt1246.2.2 bt1255.1 bt1255.2).bind fun t1257 => if t1257 = true then (offcutlaw03_awake.f k).bind fun t => some t else some false) true :=
    Ev.bind (rat_Sum.ev I0 I1 I0 (by omega) (by omega)) (Ev.bind P1 (Ev.bind P4 (RatSums.is_ ((sa.add sb).add sa) (by omega) (by omega) (Dec.end_ A))))
  have n4 : Ev (fun k => (rat_Neg.f k m0 l0 d0).bind fun bt1236 => (offcutref03_Neg.f (Zn.tz a.num) (Dec.dec a.den)).bind fun bt1243 => (offcutlaw03_Is.f k bt1236.1 bt1236.2.1 bt1236.2.2 bt1243.1 bt1243.2).bind fun t1245 => if t1245 = true then ((rat_Sum.f k m0 l0 d0 m1 l1 d1 m0 l0 d0).bind fun bt1246 => (offcutref03_Add.f k (Zn.tz a.num) (Dec.dec a.den) (Zn.tz b.num) (Dec.dec b.den)).bind fun bt1253 => (offcutref03_Add.f k bt1253.1 bt1253.2 (Zn.tz a.num) (Dec.dec a.den)).bind fun bt1255 => (offcutlaw03_Is.f k bt1246.1 bt1246.2.1 bt1246.2.2 bt1255.1 bt1255.2).bind fun t1257 => if t1257 = true then (offcutlaw03_awake.f k).bind fun t => some t else some false) else some false) true :=
    Ev.bind (rat_Neg.ev I0 (by omega) (by omega)) (Dec.val (fun _ => offcutref03_Neg.sem sa (by omega)) (RatSums.is_ sa.neg (by omega) (by omega) n5))
  refine Ev.step (f := fun k => if false = true then ((offcutlaw03_awake.f k).bind fun t911 => (some t911)) else ((offcutlaw03_Of.f k m0 l0 d0).bind fun bt912 => ((offcutlaw03_Of.f k m1 l1 d1).bind fun bt914 => ((rat_Add.f k m0 l0 d0 m1 l1 d1).bind fun bt918 => ((offcutref03_Add.f k bt912.1 bt912.2 bt914.1 bt914.2).bind fun bt925 => ((offcutlaw03_Is.f k bt918.1 bt918.2.1 bt918.2.2 bt925.1 bt925.2).bind fun t927 => (if t927 = true then ((rat_Sub.f k m0 l0 d0 m1 l1 d1).bind fun bt928 => ((offcutref03_Neg.f bt914.1 bt914.2).bind fun bt935 => ((offcutref03_Add.f k bt912.1 bt912.2 bt935.1 bt935.2).bind fun bt937 => ((offcutlaw03_Is.f k bt928.1 bt928.2.1 bt928.2.2 bt937.1 bt937.2).bind fun t939 => (if t939 = true then ((rat_Mul.f k m0 l0 d0 m1 l1 d1).bind fun bt940 => ((offcutref03_Mul.f k bt912.1 bt912.2 bt914.1 bt914.2).bind fun bt947 => ((offcutlaw03_Is.f k bt940.1 bt940.2.1 bt940.2.2 bt947.1 bt947.2).bind fun t949 => (if t949 = true then ((rat_Neg.f k m0 l0 d0).bind fun bt950 => ((offcutref03_Neg.f bt912.1 bt912.2).bind fun bt957 => ((offcutlaw03_Is.f k bt950.1 bt950.2.1 bt950.2.2 bt957.1 bt957.2).bind fun t959 => (if t959 = true then ((rat_Sum.f k m0 l0 d0 m1 l1 d1 m0 l0 d0).bind fun bt960 => ((offcutref03_Add.f k bt912.1 bt912.2 bt914.1 bt914.2).bind fun bt967 => ((offcutref03_Add.f k bt967.1 bt967.2 bt912.1 bt912.2).bind fun bt969 => ((offcutlaw03_Is.f k bt960.1 bt960.2.1 bt960.2.2 bt969.1 bt969.2).bind fun t971 => (if t971 = true then ((offcutlaw03_awake.f k).bind fun t972 => (some t972)) else (some false)))))) else (some false))))) else (some false))))) else (some false)))))) else (some false)))))))) (fun k => by rw [offcutlaw03_RatSums.j0]) ?_
  refine Dec.no (by decide) (Ev.bind O0 (Ev.bind O1 (Ev.bind (rat_Add.ev I0 I1 (by omega) (by omega) (by omega)) (Ev.bind P1 (RatSums.is_ (sa.add sb) (by omega) (by omega) (Ev.bind S (Dec.val (fun _ => offcutref03_Neg.sem sb (by omega)) (Ev.bind P2 (RatSums.is_ (sa.add sb.neg) (by omega) (by omega) ?_)))))))))
  exact Ev.bind (rat_Mul.ev I0 I1 (by omega) (by omega) (by omega)) (Ev.bind P3 (RatSums.is_ (sa.mul sb) (by omega) (by omega) n4))

end Go.Proofs.Ytcdkopidgibijaa.Pure
