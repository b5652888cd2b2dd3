import Derived.Test.YtjpkljkkcbaohaaPRx57
import Derived.Test.YtjpkljkkcbaohaaPRg28
namespace Go.Proofs.Ytjpkljkkcbaohaa.Pure
open Go.RowKit Go.Proofs.Ytjpkljkkcbaohaa.PR Go.Proofs.YtjpkljkkcbaohaaW.PrintWords Go.Proofs.YtjpkljkkcbaohaaW.PrintLast Go.Proofs.YtjpkljkkcbaohaaW.PrintMore

theorem WholeSmall.ws {l : List Int} (h : ∀ x ∈ l, (Lit.int .u32 x).wf = true) : Num.Ws l := fun x hx => by
  have := h x hx
  simp [Lit.wf, IntKind.min, IntKind.max, IntKind.signed, IntKind.bits] at this
  omega
theorem WholeSmall.c62 : (⟨#[52, 54, 49, 49, 54, 56, 54, 48, 49, 56, 52, 50, 55, 51, 56, 55, 57, 48, 52]⟩ : ByteArray) = Zn.tz 4611686018427387904 := by
  have h1 : (4611686018427387904 : Nat) = Dec.dv ([4, 0, 9, 7, 8, 3, 7, 2, 4, 8, 1, 0, 6, 8, 6, 1, 1, 6] ++ [4]) := rfl
  rw [Zn.tz_pos (by omega), show (4611686018427387904 : Int).natAbs = 4611686018427387904 from rfl]
  unfold Dec.dec
  rw [h1, Dec.dc_snoc (by unfold Dec.Ds; decide) (by omega) (by omega)]
  rfl
theorem WholeSmall.c62n : (⟨#[45, 52, 54, 49, 49, 54, 56, 54, 48, 49, 56, 52, 50, 55, 51, 56, 55, 57, 48, 52]⟩ : ByteArray) = Zn.tz (-4611686018427387904) := by
  have h := WholeSmall.c62
  rw [Zn.tz_pos (by omega), show (4611686018427387904 : Int).natAbs = 4611686018427387904 from rfl] at h
  rw [Zn.tz_neg (by omega), show (-4611686018427387904 : Int).natAbs = 4611686018427387904 from rfl, ← h]
  rfl
theorem WholeSmall (n : Int) (m1 : Bool) (l1 : List Int) (hn : (Lit.int .i64 n).wf = true) (h1 : ∀ x ∈ l1, (Lit.int .u32 x).wf = true) : ∃ k, offcutlaw02_WholeSmall.f k n m1 l1 = some true := by
  have W1 := WholeSmall.ws h1
  have hb : -9223372036854775808 ≤ n ∧ n < 9223372036854775808 := by
    simp [Lit.wf, IntKind.min, IntKind.max, IntKind.signed, IntKind.bits] at hn
    omega
  clear h1 hn
  refine Ev.rounds ?_
  unfold offcutlaw02_WholeSmall.f
  by_cases c1 : l1.length ≤ 10
  rotate_left
  · refine Dec.val (a := false) (fun _ => by unfold offcutlaw02_few.f; rw [decide_eq_false (by omega)]) (Dec.no (by decide) (Dec.end_ offcutlaw02_awake.ev))
  refine Dec.val (a := true) (fun _ => by unfold offcutlaw02_few.f; rw [decide_eq_true (by omega)]) (Dec.yes rfl ?_)
  obtain ⟨K, hK⟩ : ∃ K : Nat, K = 10 := ⟨10, rfl⟩
  rw [← hK] at c1
  obtain ⟨a, I⟩ : ∃ a, Zn.Is m1 l1 a K := ⟨_, Zn.Is.of W1 c1⟩
  have s62 : (4611686018427387904 : Int).natAbs < 2 ^ (32 * K) := Num.le_pow (k := 2) (by decide) (by omega)
  have s62n : (-4611686018427387904 : Int).natAbs < 2 ^ (32 * K) := Num.le_pow (k := 2) (by decide) (by omega)
  have sa := I.lt
  have sn : n.natAbs < 2 ^ (32 * 2) := by omega
  have O := offcutlaw02_of.ev I (by omega)
  have A := offcutlaw02_awake.ev
  have In := Zn.Is.zd sn
  have J1 : Ev (fun k => offcutlaw02_WholeSmall.j1 k false m1 l1) true := by
    refine Ev.step (f := fun k => if false = true then (some false) else ((whole_Small.f k m1 l1).bind fun bt650 => (if bt650.2 = true then ((whole_Of.f k bt650.1).bind fun bt652 => ((offcutlaw02_of.f k bt652.1 bt652.2).bind fun t656 => ((offcutlaw02_of.f k m1 l1).bind fun t657 => (if t656.toList = t657.toList then ((offcutlaw02_awake.f k).bind fun t658 => (some t658)) else (some false))))) else (if bt650.1 = 0 then ((offcutlaw02_of.f k m1 l1).bind fun t659 => ((offcutref02_Less.f k t659 (⟨#[52, 54, 49, 49, 54, 56, 54, 48, 49, 56, 52, 50, 55, 51, 56, 55, 57, 48, 52]⟩ : ByteArray)).bind fun t660 => (if t660 = true then ((offcutlaw02_of.f k m1 l1).bind fun t661 => ((offcutref02_Less.f k t661 (⟨#[45, 52, 54, 49, 49, 54, 56, 54, 48, 49, 56, 52, 50, 55, 51, 56, 55, 57, 48, 52]⟩ : ByteArray)).bind fun t662 => (if t662 = true then ((offcutlaw02_awake.f k).bind fun t663 => (some t663)) else (some false)))) else ((offcutlaw02_awake.f k).bind fun t664 => (some t664))))) else (some false))))) (fun k => by rw [offcutlaw02_WholeSmall.j1]) (Dec.no (by decide) ?_)
    have S := whole_Small.ev I (by omega)
    by_cases hi : -4611686018427387904 ≤ a ∧ a < 4611686018427387904
    · rw [if_pos hi] at S
      have O2 := offcutlaw02_of.ev (Zn.Is.zd sa) (by omega)
      exact Ev.bind S (Dec.yes rfl (Ev.bind (whole_Of.ev a (by omega) (by omega)) (Ev.bind O2 (Ev.bind O (Dec.yes rfl (Dec.end_ A))))))
    · rw [if_neg hi] at S
      rw [WholeSmall.c62, WholeSmall.c62n]
      refine Ev.bind S (Dec.no (by decide) (Dec.yes rfl (Ev.bind O (Ev.bind (offcutref02_Less.ev sa s62 (by omega)) ?_))))
      by_cases hl : a < 4611686018427387904
      · exact Dec.yes (decide_eq_true hl) (Ev.bind O (Ev.bind (offcutref02_Less.ev sa s62n (by omega)) (Dec.yes (decide_eq_true (by omega)) (Dec.end_ A))))
      · exact Dec.no (by rw [decide_eq_false hl]; decide) (Dec.end_ A)
  have J0 : ∀ x6 x7, (x6, x7) = (if -4611686018427387904 ≤ n ∧ n < 4611686018427387904 then (n, true) else (0, false)) → Ev (fun k => offcutlaw02_WholeSmall.j0 k n x6 x7 (decide (-4611686018427387904 ≤ n ∧ n < 4611686018427387904)) m1 l1 (Zn.zd n).1 (Zn.zd n).2) true := by
    intro x6 x7 hx
    by_cases hi : -4611686018427387904 ≤ n ∧ n < 4611686018427387904
    · rw [if_pos hi] at hx
      obtain ⟨rfl, rfl⟩ := Prod.mk.inj hx
      rw [decide_eq_true hi]
      refine Ev.step (f := fun k => if (true != true) = true then (offcutlaw02_WholeSmall.j1 k true m1 l1) else (if true = true then (if x6 = x6 then ((whole_Right.f ((Zn.zd x6).1) ((Zn.zd x6).2)).bind fun t648 => (offcutlaw02_WholeSmall.j1 k (!t648) m1 l1)) else (offcutlaw02_WholeSmall.j1 k true m1 l1)) else (if x6 = 0 then ((whole_Right.f ((Zn.zd x6).1) ((Zn.zd x6).2)).bind fun t649 => (offcutlaw02_WholeSmall.j1 k (!t649) m1 l1)) else (offcutlaw02_WholeSmall.j1 k true m1 l1)))) (fun k => by rw [offcutlaw02_WholeSmall.j0]) ?_
      exact Dec.no (by decide) (Dec.yes rfl (Dec.yes rfl (Dec.val (fun _ => whole_Right.zd sn (by omega)) J1)))
    · rw [if_neg hi] at hx
      obtain ⟨rfl, rfl⟩ := Prod.mk.inj hx
      rw [decide_eq_false hi]
      refine Ev.step (f := fun k => if (false != false) = true then (offcutlaw02_WholeSmall.j1 k true m1 l1) else (if false = true then (if ((0 : Int)) = n then ((whole_Right.f ((Zn.zd n).1) ((Zn.zd n).2)).bind fun t648 => (offcutlaw02_WholeSmall.j1 k (!t648) m1 l1)) else (offcutlaw02_WholeSmall.j1 k true m1 l1)) else (if ((0 : Int)) = 0 then ((whole_Right.f ((Zn.zd n).1) ((Zn.zd n).2)).bind fun t649 => (offcutlaw02_WholeSmall.j1 k (!t649) m1 l1)) else (offcutlaw02_WholeSmall.j1 k true m1 l1)))) (fun k => by rw [offcutlaw02_WholeSmall.j0]) ?_
      exact Dec.no (by decide) (Dec.no (by decide) (Dec.yes rfl (Dec.val (fun _ => whole_Right.zd sn (by omega)) J1)))
  refine Ev.bind (whole_Of.ev n hb.1 hb.2) (Ev.bind (whole_Small.ev In (by omega)) ?_)
  have J := J0 _ _ rfl
  by_cases h : n ≥ -4611686018427387904
  · refine Dec.yes h (Ev.congr (fun k => ?_) J)
    rw [show decide (-4611686018427387904 ≤ n ∧ n < 4611686018427387904) = decide (n < 4611686018427387904) from decide_eq_decide.2 ⟨fun e => e.2, fun e => ⟨h, e⟩⟩]
    rfl
  · refine Dec.no h (Ev.congr (fun k => ?_) J)
    rw [show decide (-4611686018427387904 ≤ n ∧ n < 4611686018427387904) = false from decide_eq_false (fun e => h e.1)]
    rfl

end Go.Proofs.Ytjpkljkkcbaohaa.Pure
