import Derived.Test.YtjpkljkkcbaohaaPRx48
import Derived.Test.YtjpkljkkcbaohaaPRg28
namespace Go.Proofs.Ytjpkljkkcbaohaa.Pure
open Go.RowKit Go.Proofs.Ytjpkljkkcbaohaa.PR Go.Proofs.YtjpkljkkcbaohaaW.PrintWords Go.Proofs.YtjpkljkkcbaohaaW.PrintLast Go.Proofs.YtjpkljkkcbaohaaW.PrintMore

theorem WholeSums.ws {l : List Int} (h : ∀ x ∈ l, (Lit.int .u32 x).wf = true) : Num.Ws l := fun x hx => by
  have := h x hx
  simp [Lit.wf, IntKind.min, IntKind.max, IntKind.signed, IntKind.bits] at this
  omega
theorem WholeSums.is_ {z : Int} {K : Nat} (h : z.natAbs < 2 ^ (32 * K)) (hK : K < 1000000) {r : Bool} {A B : Nat → Option Bool} (k : Ev A r) : Ev (fun k => (offcutlaw02_is.f k (Zn.zd z).1 (Zn.zd z).2 (Zn.tz z)).bind fun t => if t = true then A k else B k) r := by
  have := offcutlaw02_is.ev (y := z) h hK
  rw [decide_eq_true rfl] at this
  exact Ev.bind this (Dec.yes rfl k)
theorem WholeSums (m0 : Bool) (l0 : List Int) (m1 : Bool) (l1 : List Int) (h0 : ∀ x ∈ l0, (Lit.int .u32 x).wf = true) (h1 : ∀ x ∈ l1, (Lit.int .u32 x).wf = true) : ∃ k, offcutlaw02_WholeSums.f k m0 l0 m1 l1 = some true := by
  have W0 := WholeSums.ws h0
  have W1 := WholeSums.ws h1
  clear h0 h1
  refine Ev.rounds ?_
  have early : Ev (fun k => offcutlaw02_WholeSums.j0 k true m0 l0 m1 l1) true :=
    Ev.step (f := fun k => (offcutlaw02_awake.f k).bind fun t => some t) (fun k => by rw [offcutlaw02_WholeSums.j0, if_pos rfl]) (Dec.end_ offcutlaw02_awake.ev)
  by_cases c : l0.length ≤ 10 ∧ l1.length ≤ 10
  rotate_left
  · refine Ev.congr (fun k => ?_) early
    unfold offcutlaw02_WholeSums.f offcutlaw02_few.f
    by_cases c0 : l0.length ≤ 10
    · rw [decide_eq_true (show (l0.length : Int) ≤ 10 by omega), Option.bind_some, if_pos rfl, decide_eq_false (by omega), Option.bind_some]
      rfl
    · rw [decide_eq_false (show ¬ (l0.length : Int) ≤ 10 by omega), Option.bind_some, if_neg (by decide)]
  obtain ⟨c0, c1⟩ := c
  refine Ev.congr (f := fun k => offcutlaw02_WholeSums.j0 k false m0 l0 m1 l1) (fun k => ?_) ?_
  · unfold offcutlaw02_WholeSums.f offcutlaw02_few.f
    rw [decide_eq_true (show (l0.length : Int) ≤ 10 by omega), Option.bind_some, if_pos rfl, decide_eq_true (by omega), Option.bind_some]
    rfl
  obtain ⟨K, hK⟩ : ∃ K : Nat, K = 10 := ⟨10, rfl⟩
  rw [← hK] at c0 c1
  obtain ⟨a, I0⟩ : ∃ a, Zn.Is m0 l0 a K := ⟨_, Zn.Is.of W0 c0⟩
  obtain ⟨b, I1⟩ : ∃ b, Zn.Is m1 l1 b K := ⟨_, Zn.Is.of W1 c1⟩
  have sa := I0.lt
  have sb := I1.lt
  have la := Dec.dc_len32 (n := a.natAbs) (by omega) sa
  have lb := Dec.dc_len32 (n := b.natAbs) (by omega) sb
  refine Ev.step (f := fun k => if false = true then ((offcutlaw02_awake.f k).bind fun t455 => (some t455)) else ((offcutlaw02_of.f k m0 l0).bind fun t456 => ((offcutlaw02_of.f k m1 l1).bind fun t457 => ((whole_Add.f k m0 l0 m1 l1).bind fun bt458 => ((offcutref02_Add.f k t456 t457).bind fun t462 => ((offcutlaw02_is.f k bt458.1 bt458.2 t462).bind fun t463 => (if t463 = true then ((whole_Sub.f k m0 l0 m1 l1).bind fun bt464 => ((offcutref02_Neg.f t457).bind fun t468 => ((offcutref02_Add.f k t456 t468).bind fun t469 => ((offcutlaw02_is.f k bt464.1 bt464.2 t469).bind fun t470 => (if t470 = true then ((whole_Mul.f k m0 l0 m1 l1).bind fun bt471 => ((offcutref02_Mul.f k t456 t457).bind fun t475 => ((offcutlaw02_is.f k bt471.1 bt471.2 t475).bind fun t476 => (if t476 = true then ((whole_Neg.f k m0 l0).bind fun bt477 => ((offcutref02_Neg.f t456).bind fun t481 => ((offcutlaw02_is.f k bt477.1 bt477.2 t481).bind fun t482 => (if t482 = true then ((offcutlaw02_of.f k m0 l0).bind fun t483 => (if t483.toList = t456.toList then ((offcutlaw02_awake.f k).bind fun t484 => (some t484)) else (some false))) else (some false))))) else (some false))))) else (some false)))))) else (some false)))))))) (fun k => by rw [offcutlaw02_WholeSums.j0]) ?_
  refine Dec.no (by decide) ?_
  have O0 := offcutlaw02_of.ev I0 (by omega)
  have O1 := offcutlaw02_of.ev I1 (by omega)
  have S := whole_Sub.ev I0 I1 (by omega)
  rw [Int.sub_eq_add_neg] at S
  have last : Ev (fun k => (offcutlaw02_of.f k m0 l0).bind fun t483 => if t483.toList = (Zn.tz a).toList then (offcutlaw02_awake.f k).bind fun t => some t else some false) true := Ev.bind O0 (Dec.yes rfl (Dec.end_ offcutlaw02_awake.ev))
  have n4 := WholeSums.is_ (B := fun _ => some false) (Zn.abs_neg sa) (by omega) last
  have n3 := Ev.bind (whole_Neg.ev I0 (by omega)) (f := fun k (bt477 : Bool × List Int) => (offcutref02_Neg.f (Zn.tz a)).bind fun t481 => (offcutlaw02_is.f k bt477.1 bt477.2 t481).bind fun t482 => if t482 = true then ((offcutlaw02_of.f k m0 l0).bind fun t483 => if t483.toList = (Zn.tz a).toList then (offcutlaw02_awake.f k).bind fun t => some t else some false) else some false) (Dec.val (fun _ => offcutref02_Neg.sem a (by omega)) n4)
  have n2 := WholeSums.is_ (B := fun _ => some false) (Zn.abs_mul sa sb) (by omega) n3
  refine Ev.bind O0 (Ev.bind O1 (Ev.bind (whole_Add.ev I0 I1 (by omega)) (Ev.bind (offcutref02_Add.ev sa sb (by omega)) (WholeSums.is_ (Zn.abs_add sa sb) (by omega) (Ev.bind S (Dec.val (fun _ => offcutref02_Neg.sem b (by omega)) (Ev.bind (offcutref02_Add.ev sa (Zn.abs_neg sb) (by omega)) (WholeSums.is_ (Zn.abs_add sa (Zn.abs_neg sb)) (by omega) (Ev.bind (whole_Mul.ev I0 I1 (by omega)) (Ev.bind (offcutref02_Mul.ev sa sb (by omega)) n2))))))))))

end Go.Proofs.Ytjpkljkkcbaohaa.Pure
