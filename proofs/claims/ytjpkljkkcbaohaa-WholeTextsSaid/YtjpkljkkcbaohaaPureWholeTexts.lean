import Derived.Test.YtjpkljkkcbaohaaPRx64
import Derived.Test.YtjpkljkkcbaohaaPRg28
namespace Go.Proofs.Ytjpkljkkcbaohaa.Pure
open Go.RowKit Go.Proofs.Ytjpkljkkcbaohaa.PR Go.Proofs.YtjpkljkkcbaohaaW.PrintWords Go.Proofs.YtjpkljkkcbaohaaW.PrintLast Go.Proofs.YtjpkljkkcbaohaaW.PrintMore

theorem WholeTexts.ws {l : List Int} (h : ∀ x ∈ l, (Lit.int .u32 x).wf = true) : Num.Ws l := fun x hx => by
  have := h x hx
  simp [Lit.wf, IntKind.min, IntKind.max, IntKind.signed, IntKind.bits] at this
  omega
theorem WholeTexts.is_ {z : Int} {K : Nat} (h : z.natAbs < 2 ^ (32 * K)) (hK : K < 1000000) {r : Bool} {A B : Nat → Option Bool} (k : Ev A r) : Ev (fun k => (offcutlaw02_is.f k (Zn.zd z).1 (Zn.zd z).2 (Zn.tz z)).bind fun t => if t = true then A k else B k) r := by
  have := offcutlaw02_is.ev (y := z) h hK
  rw [decide_eq_true rfl] at this
  exact Ev.bind this (Dec.yes rfl k)
theorem WholeTexts (m0 : Bool) (l0 : List Int) (s : ByteArray) (h0 : ∀ x ∈ l0, (Lit.int .u32 x).wf = true) : ∃ k, offcutlaw02_WholeTexts.f k m0 l0 s = some true := by
  have W0 := WholeTexts.ws h0
  clear h0
  refine Ev.rounds ?_
  have A := offcutlaw02_awake.ev
  have early : Ev (fun k => offcutlaw02_WholeTexts.j0 k s true m0 l0) true :=
    Ev.step (f := fun k => (offcutlaw02_awake.f k).bind fun t => some t) (fun k => by rw [offcutlaw02_WholeTexts.j0, if_pos rfl]) (Dec.end_ A)
  by_cases c : l0.length ≤ 10 ∧ s.size ≤ 500
  rotate_left
  · refine Ev.congr (fun k => ?_) early
    unfold offcutlaw02_WholeTexts.f offcutlaw02_few.f
    by_cases c0 : l0.length ≤ 10
    · rw [decide_eq_true (show (l0.length : Int) ≤ 10 by omega), Option.bind_some, if_pos rfl, decide_eq_true (by omega)]
    · rw [decide_eq_false (show ¬ (l0.length : Int) ≤ 10 by omega), Option.bind_some, if_neg (by decide)]
  obtain ⟨c0, c1⟩ := c
  refine Ev.congr (f := fun k => offcutlaw02_WholeTexts.j0 k s false m0 l0) (fun k => ?_) ?_
  · unfold offcutlaw02_WholeTexts.f offcutlaw02_few.f
    rw [decide_eq_true (show (l0.length : Int) ≤ 10 by omega), Option.bind_some, if_pos rfl, decide_eq_false (by omega)]
  obtain ⟨a, I⟩ : ∃ a, Zn.Is m0 l0 a 10 := ⟨_, Zn.Is.of W0 c0⟩
  have sa := I.lt
  have J3 : ∀ s' m, (if 0 < s.size ∧ bt s 0 = 45 then (s.extract 1 s.size, true) else (s, false)) = (s', m) → s'.size ≤ 500 → Ev (fun k => offcutlaw02_WholeTexts.j3 k s s' m) true := by
    intro s' m hc hs'
    refine Ev.step (f := fun k => (nat_Parse.f k (s')).bind fun bt704 => ((whole_Parse.f k s).bind fun bt708 => (if bt704.2 = 0 then ((offcutref01_Of.f k bt704.1).bind fun t716 => ((offcutref02_Made.f m t716).bind fun t717 => ((offcutlaw02_is.f k bt708.1 bt708.2.1 t717).bind fun t718 => (if t718 = true then (if bt708.2.2 = 0 then ((offcutlaw02_awake.f k).bind fun t719 => (some t719)) else (some false)) else (some false))))) else ((offcutlaw02_is.f k bt708.1 bt708.2.1 (⟨#[48]⟩ : ByteArray)).bind fun t714 => (if t714 = true then (if bt708.2.2 = bt704.2 then ((offcutlaw02_awake.f k).bind fun t715 => (some t715)) else (some false)) else (some false)))))) (fun k => by rw [offcutlaw02_WholeTexts.j3]) ?_
    rcases whole_Parse.any_ hs' with ⟨n, K, hK, hn, P⟩ | ⟨l, e, he, P⟩
    · have O := offcutref01_Of.ev (Num.Ws_nd n) (by have := Num.nd_length_le hn; omega)
      rw [Num.nv_nd] at O
      have la := Dec.dc_len32 (k := K + 1) (by omega) (Num.le_pow hn (by omega))
      refine Ev.bind P (Ev.bind (whole_Parse.ev0 hc hn (by omega) P) (Dec.yes rfl (Ev.bind O (Dec.val (fun _ => offcutref02_Made.sem m n (by omega)) ?_))))
      exact WholeTexts.is_ (by rw [Zn.natAbs_zv]; exact hn) (by omega) (Dec.yes rfl (Dec.end_ A))
    · have Iz := offcutlaw02_is.ev (z := 0) (y := 0) (K := 1) (by decide) (by omega)
      rw [decide_eq_true rfl, Zn.tz_zero, Zn.zd_zero] at Iz
      exact Ev.bind P (Ev.bind (whole_Parse.ev1 hc he P) (Dec.no he (Ev.bind Iz (Dec.yes rfl (Dec.yes rfl (Dec.end_ A))))))
  have J2 : ∀ f, (f = true ↔ 0 < s.size ∧ bt s 0 = 45) → Ev (fun k => offcutlaw02_WholeTexts.j2 k s s false f) true := by
    intro f hf
    cases f
    · have h : ¬ (0 < s.size ∧ bt s 0 = 45) := fun e => absurd (hf.2 e) (by decide)
      refine Ev.step (fun k => ?_) (J3 s false (if_neg h) c1)
      rw [offcutlaw02_WholeTexts.j2, if_neg (by decide)]
    · have h := hf.1 rfl
      have hz : (s.extract 1 s.size).size ≤ 500 := by
        rw [ByteArray.size_extract]
        omega
      refine Ev.step (fun k => ?_) (J3 _ true (if_pos h) hz)
      rw [offcutlaw02_WholeTexts.j2, if_pos rfl, if_pos (by omega)]
  have J1 : Ev (fun k => offcutlaw02_WholeTexts.j1 k s false) true := by
    by_cases he : s.toList = ([] : List UInt8)
    · have hz : ¬ 0 < s.size := by
        have e : s.toList = s.data.toList := strings_CutPrefix.bytes s
        rw [e] at he
        have : s.data.toList.length = 0 := by rw [he]; rfl
        have h2 : s.size = s.data.toList.length := by simp
        omega
      refine Ev.step (fun k => ?_) (J2 false ⟨fun e => absurd e (by decide), fun e => absurd e.1 hz⟩)
      rw [offcutlaw02_WholeTexts.j1, if_neg (by decide), if_pos he]
    · have hz : 0 < s.size := by
        rcases Nat.eq_zero_or_pos s.size with h | h
        · have e : s.toList = s.data.toList := strings_CutPrefix.bytes s
          exact absurd (by rw [e]; exact List.eq_nil_of_length_eq_zero (by simpa using h)) he
        · exact h
      refine Ev.step (fun k => ?_) (J2 (bt s 0 == 45) ⟨fun e => ⟨hz, by simpa using e⟩, fun e => by simpa using e.2⟩)
      rw [offcutlaw02_WholeTexts.j1, if_neg (by decide), if_neg he, if_pos (by omega)]
  refine Ev.step (f := fun k => if false = true then ((offcutlaw02_awake.f k).bind fun t694 => (some t694)) else ((whole_Text.f k m0 l0).bind fun t695 => ((whole_Parse.f k t695).bind fun bt696 => ((offcutlaw02_of.f k m0 l0).bind fun t702 => (if t695.toList = t702.toList then ((offcutlaw02_is.f k bt696.1 bt696.2.1 t695).bind fun t703 => (if t703 = true then (offcutlaw02_WholeTexts.j1 k s (bt696.2.2 != 0)) else (offcutlaw02_WholeTexts.j1 k s true))) else (offcutlaw02_WholeTexts.j1 k s true)))))) (fun k => by rw [offcutlaw02_WholeTexts.j0]) ?_
  exact Dec.no (by decide) (Ev.bind (whole_Text.ev I (by omega)) (Ev.bind (whole_Parse.ev_tz sa (by omega) (by omega)) (Ev.bind (offcutlaw02_of.ev I (by omega)) (Dec.yes rfl (WholeTexts.is_ sa (by omega) J1)))))

end Go.Proofs.Ytjpkljkkcbaohaa.Pure
