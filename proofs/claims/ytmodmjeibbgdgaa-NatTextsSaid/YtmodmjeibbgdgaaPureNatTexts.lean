import Derived.Test.YtmodmjeibbgdgaaPRx44
namespace Go.Proofs.Ytmodmjeibbgdgaa.Pure
open Go.RowKit Go.Proofs.Ytmodmjeibbgdgaa.PR Go.Proofs.YtmodmjeibbgdgaaW.PrintWords Go.Proofs.YtmodmjeibbgdgaaW.PrintLast

theorem NatTexts.ws {l : List Int} (h : ∀ x ∈ l, (Lit.int .u32 x).wf = true) : Num.Ws l := fun x hx => by
  have := h x hx
  simp [Lit.wf, IntKind.min, IntKind.max, IntKind.signed, IntKind.bits] at this
  omega
theorem NatTexts.is_ {n K : Nat} (hK : K < 1000) (h : n < 2 ^ (32 * K)) {r : Bool} {A B : Nat → Option Bool} (k : Ev A r) : Ev (fun k => (offcutlaw01_is.f k (Num.nd n) (Dec.dec n)).bind fun t => if t = true then A k else B k) r := by
  have := offcutlaw01_is.ev_nd (n := n) (Nat.lt_of_le_of_lt (Num.nd_length_le h) (by omega)) n
  rw [decide_eq_true rfl] at this
  exact Ev.bind this (Dec.yes rfl k)
/-- A text of digits, or the first place where there is none. -/
theorem NatTexts.upto_ (s : ByteArray) (n : Nat) (hn : n ≤ s.size) : (∃ p, p < n ∧ (∀ i, i < p → ∃ d, d < 10 ∧ bt s (i : Int) = ((48 + d : Nat) : Int)) ∧ ¬ (48 ≤ bt s (p : Int) ∧ bt s (p : Int) ≤ 57)) ∨ (∀ i, i < n → ∃ d, d < 10 ∧ bt s (i : Int) = ((48 + d : Nat) : Int)) := by
  induction n with
  | zero => exact .inr (fun i h => absurd h (by omega))
  | succ n ih =>
    rcases ih (by omega) with ⟨p, hp, h1, h2⟩ | h
    · exact .inl ⟨p, by omega, h1, h2⟩
    · by_cases hb : 48 ≤ bt s (n : Int) ∧ bt s (n : Int) ≤ 57
      · refine .inr (fun i hi => ?_)
        by_cases e : i = n
        · subst e
          exact ⟨(bt s (i : Int) - 48).toNat, by omega, by omega⟩
        · exact h i (by omega)
      · exact .inl ⟨n, by omega, h, hb⟩
theorem NatTexts.digits {s : ByteArray} (h : ∀ i, i < s.size → ∃ d, d < 10 ∧ bt s (i : Int) = ((48 + d : Nat) : Int)) : ∃ l, Dec.Ds l ∧ s = Dec.tx l := by
  have key : ∀ b ∈ s.data.toList, ∃ d, d < 10 ∧ b.toNat = 48 + d := by
    intro b hb
    obtain ⟨i, hi, e⟩ := List.mem_iff_getElem.1 hb
    have hi' : i < s.size := by simpa using hi
    obtain ⟨d, hd, h1⟩ := h i hi'
    refine ⟨d, hd, ?_⟩
    unfold bt at h1
    rw [Int.toNat_natCast, dif_pos hi'] at h1
    have e2 : s[i]'hi' = b := by rw [← e]; rfl
    rw [e2] at h1
    omega
  refine ⟨(s.data.toList.map (fun b => b.toNat - 48)).reverse, ?_, ?_⟩
  · intro x hx
    obtain ⟨b, hb, rfl⟩ := List.mem_map.1 (List.mem_reverse.1 hx)
    obtain ⟨d, hd, e⟩ := key b hb
    omega
  · unfold Dec.tx
    rw [List.reverse_reverse, List.map_map]
    apply ByteArray.ext
    show s.data = (List.map (Dec.ch ∘ fun b => b.toNat - 48) s.data.toList).toArray
    have : List.map (Dec.ch ∘ fun b : UInt8 => b.toNat - 48) s.data.toList = s.data.toList := by
      refine (List.map_congr_left (fun b hb => ?_)).trans (List.map_id _)
      obtain ⟨d, hd, e⟩ := key b hb
      apply UInt8.toNat_inj.1
      show (Dec.ch (b.toNat - 48)).toNat = b.toNat
      rw [Dec.ch_nat (by omega)]
      omega
    rw [this]
/-- Digits are passed over. -/
theorem NatTexts.walk_ {s : ByteArray} {x8 : List Int} {x9 : Int} {r : Bool} (hs : s.size ≤ 500) {p : Nat} (hp : p ≤ s.size) (hd : ∀ i, i < p → ∃ d, d < 10 ∧ bt s (i : Int) = ((48 + d : Nat) : Int)) (next : Ev (fun k => offcutlaw01_NatTexts.l0 k s x8 x9 (s.size : Int) (p : Int)) r) :
    Ev (fun k => offcutlaw01_NatTexts.l0 k s x8 x9 (s.size : Int) 0) r := by
  have main : ∀ e i : Nat, i + e = p → Ev (fun k => offcutlaw01_NatTexts.l0 k s x8 x9 (s.size : Int) (i : Int)) r := by
    intro e
    induction e with
    | zero =>
      intro i hi
      obtain rfl : i = p := by omega
      exact next
    | succ e ih =>
      intro i hi
      obtain ⟨d, hd10, hb⟩ := hd i (by omega)
      refine Ev.step (fun k => ?_) (ih (i + 1) (by omega))
      rw [offcutlaw01_NatTexts.l0, if_pos (by omega), if_pos (by omega), if_pos (by omega), hb, if_neg (by omega), if_neg (by omega), Dec.w64s _ (by omega)]
  exact main p 0 (by omega)
theorem NatTexts.bad_ {s : ByteArray} {i : Nat} (hi : i < s.size) (hb : ¬ (48 ≤ bt s (i : Int) ∧ bt s (i : Int) ≤ 57)) : Ev (fun k => offcutlaw01_NatTexts.l0 k s [] 2 (s.size : Int) (i : Int)) true := by
  refine Ev.step (f := fun k => (offcutlaw01_awake.f k).bind fun t => some t) (fun k => ?_) (Dec.end_ offcutlaw01_awake.ev)
  by_cases h : bt s (i : Int) < 48
  · rw [offcutlaw01_NatTexts.l0, if_pos (by omega), if_pos (by omega), if_pos (by omega), if_pos h, if_pos rfl]
    exact if_pos rfl
  · rw [offcutlaw01_NatTexts.l0, if_pos (by omega), if_pos (by omega), if_pos (by omega), if_neg h, if_pos (by omega), if_pos rfl]
    exact if_pos rfl
/-- A text of digits alone. -/
theorem NatTexts.good {l : List Nat} (hl : Dec.Ds l) (hs : l.length ≤ 500) : Ev (fun k => (nat_Parse.f k (Dec.tx l)).bind fun b => offcutlaw01_NatTexts.l0 k (Dec.tx l) b.1 b.2 (((Dec.tx l).size : Nat) : Int) 0) true := by
  have hsz := Dec.tx_size l
  have P := nat_Parse.ev_dig hl (by omega)
  have hd : ∀ i, i < (Dec.tx l).size → ∃ d, d < 10 ∧ bt (Dec.tx l) (i : Int) = ((48 + d : Nat) : Int) := by
    intro i hi
    exact ⟨_, hl.getD (l.length - 1 - i), by rw [Dec.bt_tx hl i (by omega)]; omega⟩
  refine Ev.bind P (NatTexts.walk_ (p := (Dec.tx l).size) (by omega) (Nat.le_refl _) hd ?_)
  by_cases h0 : l.length = 0
  · rw [if_pos h0]
    refine Ev.step (f := fun k => (offcutlaw01_awake.f k).bind fun t => some t) (fun k => ?_) (Dec.end_ offcutlaw01_awake.ev)
    obtain rfl : l = [] := List.eq_nil_of_length_eq_zero h0
    rw [offcutlaw01_NatTexts.l0, if_neg (by omega), if_pos (by rw [Dec.tx_toList]; rfl), if_pos rfl]
    exact if_pos rfl
  rw [if_neg h0]
  have hne : ¬ (Dec.tx l).toList = ([] : List UInt8) := by
    rw [Dec.tx_toList]
    simpa using fun e => h0 (by rw [e]; rfl)
  by_cases h4 : 400 < l.length
  · rw [if_pos h4]
    refine Ev.step (f := fun k => (offcutlaw01_awake.f k).bind fun t => some t) (fun k => ?_) (Dec.end_ offcutlaw01_awake.ev)
    rw [offcutlaw01_NatTexts.l0, if_neg (by omega), if_neg hne, if_pos (by omega), if_pos rfl]
    exact if_pos rfl
  rw [if_neg h4]
  have A := offcutref01_Add.ev hl (Dec.Ds_dc 0) (by omega) (by have := Dec.dc_length_le (n := 0) (k := 1) (by omega) (by omega); omega)
  rw [show Dec.tx (Dec.dc 0) = ⟨#[48]⟩ from Dec.dec_zero, Dec.dv_dc, Nat.add_zero] at A
  have hv := Dec.dv_lt hl
  have hb : Dec.dv l < 2 ^ (32 * l.length) := by
    refine Nat.lt_of_lt_of_le hv ?_
    rw [Nat.pow_mul]
    exact Nat.pow_le_pow_left (by decide) l.length
  refine Ev.step (f := fun k => (offcutref01_Add.f k (Dec.tx l) (⟨#[48]⟩ : ByteArray)).bind fun t523 => (offcutlaw01_is.f k (Num.nd (Dec.dv l)) t523).bind fun t524 => if t524 = true then (offcutlaw01_awake.f k).bind fun t => some t else some false) (fun k => ?_) (Ev.bind A (NatTexts.is_ (by omega) hb (Dec.end_ offcutlaw01_awake.ev)))
  rw [offcutlaw01_NatTexts.l0, if_neg (by omega), if_neg hne, if_neg (by omega)]
  rfl
theorem NatTexts : offcutlaw01_NatTexts.Pure := by
  intro l0 a1 _ _ h0 _
  have W0 := NatTexts.ws h0
  clear h0
  refine Ev.rounds ?_
  have early : Ev (fun k => offcutlaw01_NatTexts.j0 k l0 a1 true) true :=
    Ev.step (f := fun k => (offcutlaw01_awake.f k).bind fun t => some t) (fun k => by rw [offcutlaw01_NatTexts.j0, if_pos rfl]) (Dec.end_ offcutlaw01_awake.ev)
  by_cases c : l0.length ≤ 12 ∧ a1.size ≤ 500
  rotate_left
  · refine Ev.congr (fun k => ?_) early
    unfold offcutlaw01_NatTexts.f offcutlaw01_few.f
    by_cases c0 : l0.length ≤ 12
    · rw [decide_eq_true (by omega), Option.bind_some, if_pos rfl, decide_eq_true (by omega)]
    · rw [decide_eq_false (by omega), Option.bind_some, if_neg (by decide)]
  obtain ⟨c0, c1⟩ := c
  refine Ev.congr (f := fun k => offcutlaw01_NatTexts.j0 k l0 a1 false) (fun k => ?_) ?_
  · unfold offcutlaw01_NatTexts.f offcutlaw01_few.f
    rw [decide_eq_true (by omega), Option.bind_some, if_pos rfl, decide_eq_false (by omega)]
  have b0 := Num.nv_lt_of W0 c0
  obtain ⟨x, hx⟩ : ∃ x, x = Num.nv l0 := ⟨_, rfl⟩
  have O0 := offcutref01_Of.ev W0 (by omega)
  have T0 := nat_Text.ev W0 (by omega)
  rw [← hx] at O0 b0 T0
  have d0 := Dec.dc_len32 (by omega) b0
  have p0 := Dec.dc_pos x
  have P0 := nat_Parse.ev_dig (Dec.Ds_dc x) (by omega)
  rw [if_neg (by omega), if_neg (by omega), Dec.dv_dc] at P0
  have J1 : Ev (fun k => offcutlaw01_NatTexts.j1 k a1 false) true := by
    refine Ev.step (f := fun k => if false = true then (some false) else ((nat_Parse.f k a1).bind fun bt515 => (offcutlaw01_NatTexts.l0 k a1 bt515.1 bt515.2 (a1.size : Int) 0))) (fun k => by rw [offcutlaw01_NatTexts.j1]) (Dec.no (by decide) ?_)
    rcases NatTexts.upto_ a1 a1.size (Nat.le_refl _) with ⟨p, hp, hd, hb⟩ | hd
    · exact Ev.bind (nat_Parse.ev_bad (by omega) hp hd hb) (NatTexts.walk_ c1 (by omega) hd (NatTexts.bad_ hp hb))
    · obtain ⟨l, hl, rfl⟩ := NatTexts.digits hd
      exact NatTexts.good hl (by rw [Dec.tx_size] at c1; omega)
  refine Ev.step (f := fun k => if false = true then ((offcutlaw01_awake.f k).bind fun t507 => (some t507)) else ((nat_Text.f k l0).bind fun t508 => ((nat_Parse.f k t508).bind fun bt509 => ((offcutref01_Of.f k l0).bind fun t513 => (if t508.toList = t513.toList then ((offcutlaw01_is.f k bt509.1 t508).bind fun t514 => (if t514 = true then (offcutlaw01_NatTexts.j1 k a1 (bt509.2 != 0)) else (offcutlaw01_NatTexts.j1 k a1 true))) else (offcutlaw01_NatTexts.j1 k a1 true)))))) (fun k => by rw [offcutlaw01_NatTexts.j0]) ?_
  refine Dec.no (by decide) (Ev.bind T0 (Ev.bind P0 (Ev.bind O0 (Dec.yes rfl ?_))))
  exact NatTexts.is_ (by omega) b0 J1

end Go.Proofs.Ytmodmjeibbgdgaa.Pure
