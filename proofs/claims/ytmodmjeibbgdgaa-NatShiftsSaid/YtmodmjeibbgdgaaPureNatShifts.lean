import Derived.Test.YtmodmjeibbgdgaaPRx35
namespace Go.Proofs.Ytmodmjeibbgdgaa.Pure
open Go.RowKit Go.Proofs.Ytmodmjeibbgdgaa.PR Go.Proofs.YtmodmjeibbgdgaaW.PrintWords Go.Proofs.YtmodmjeibbgdgaaW.PrintLast

theorem NatShifts.ws {l : List Int} (h : ∀ x ∈ l, (Lit.int .u32 x).wf = true) : Num.Ws l := fun x hx => by
  have := h x hx
  simp [Lit.wf, IntKind.min, IntKind.max, IntKind.signed, IntKind.bits] at this
  omega
theorem NatShifts.comp {a b : List Int} (ha : Num.okw a = true) (hb : Num.okw b = true) (k : Nat) : nat_Compare.f k a b = some (Num.cmp (Num.nv a) (Num.nv b)) := by
  unfold nat_Compare.f
  rw [if_pos ha, if_pos hb]

theorem NatShifts.is_ {n K : Nat} (hK : K < 1000) (h : n < 2 ^ (32 * K)) {r : Bool} {A B : Nat → Option Bool} (k : Ev A r) : Ev (fun k => (offcutlaw01_is.f k (Num.nd n) (Dec.dec n)).bind fun t => if t = true then A k else B k) r := by
  have := offcutlaw01_is.ev_nd (n := n) (Nat.lt_of_le_of_lt (Num.nd_length_le h) (by omega)) n
  rw [decide_eq_true rfl] at this
  exact Ev.bind this (Dec.yes rfl k)
theorem NatShifts : offcutlaw01_NatShifts.Pure := by
  intro l0 a _ _ h0 hwa
  have W0 := NatShifts.ws h0
  clear h0
  refine Ev.rounds ?_
  have early : Ev (fun k => offcutlaw01_NatShifts.j0 k l0 a true) true :=
    Ev.step (f := fun k => (offcutlaw01_awake.f k).bind fun t => some t) (fun k => by rw [offcutlaw01_NatShifts.j0, if_pos rfl]) (Dec.end_ offcutlaw01_awake.ev)
  by_cases c : l0.length ≤ 12 ∧ ¬ (200 < a ∧ a ≤ 65536)
  rotate_left
  · refine Ev.congr (fun k => ?_) early
    unfold offcutlaw01_NatShifts.f offcutlaw01_few.f
    by_cases c0 : l0.length ≤ 12
    · rw [decide_eq_true (by omega), Option.bind_some, if_pos rfl, if_pos (by omega), decide_eq_true (by omega)]
    · rw [decide_eq_false (by omega), Option.bind_some, if_neg (by decide)]
  obtain ⟨c0, c1⟩ := c
  refine Ev.congr (f := fun k => offcutlaw01_NatShifts.j0 k l0 a false) (fun k => ?_) ?_
  · unfold offcutlaw01_NatShifts.f offcutlaw01_few.f
    rw [decide_eq_true (by omega), Option.bind_some, if_pos rfl]
    by_cases c2 : a > 200
    · rw [if_pos c2, decide_eq_false (by omega)]
    · rw [if_neg c2]
  have K0 := Num.okw_of (by omega) W0
  have b0 := Num.nv_lt_of W0 c0
  obtain ⟨x, hx⟩ : ∃ x, x = Num.nv l0 := ⟨_, rfl⟩
  have O0 := offcutref01_Of.ev W0 (by omega)
  have BI := nat_Bits.ev W0 (by omega)
  rw [← hx] at O0 b0 BI
  have d0 := Dec.dc_len32 (by omega) b0
  refine Ev.step (f := fun k => if false = true then ((offcutlaw01_awake.f k).bind fun t318 => (some t318)) else ((offcutref01_Of.f k l0).bind fun t319 => (if a < 0 then (offcutlaw01_NatShifts.j1 k l0 a t319 true) else (offcutlaw01_NatShifts.j1 k l0 a t319 (decide (a > 65536)))))) (fun k => by rw [offcutlaw01_NatShifts.j0]) ?_
  refine Dec.no (by decide) (Ev.bind O0 ?_)
  have out : (a < 0 ∨ 65536 < a) → Ev (fun k => offcutlaw01_NatShifts.j1 k l0 a (Dec.dec x) true) true := by
    intro ho
    have SH := nat_Shift.ev_out K0 ho
    rw [← hx] at SH
    refine Ev.step (f := fun k => if true = true then ((nat_Shift.f k l0 a).bind fun t320 => ((offcutlaw01_is.f k t320 (Dec.dec x)).bind fun t323 => (if t323 = true then ((offcutlaw01_awake.f k).bind fun t324 => (some t324)) else (some false)))) else ((nat_Bits.f k l0).bind fun t325 => (if (Dec.dec x).toList = ([48] : List UInt8) then (if t325 = 0 then ((nat_Shift.f k l0 a).bind fun t326 => ((offcutlaw01_is.f k t326 (⟨#[48]⟩ : ByteArray)).bind fun t329 => (if t329 = true then ((offcutlaw01_awake.f k).bind fun t330 => (some t330)) else (some false)))) else (some false)) else ((nat_Shift.f k l0 a).bind fun t331 => ((offcutref01_Power.f k a).bind fun t334 => ((offcutref01_Mul.f k (Dec.dec x) t334).bind fun t335 => ((offcutlaw01_is.f k t331 t335).bind fun t336 => (if t336 = true then (if t325 ≥ 1 then (if t325 ≤ 384 then ((offcutref01_Power.f k (wrap64 (t325 - 1))).bind fun t337 => ((offcutref01_Less.f (Dec.dec x) t337).bind fun t338 => (if t338 = true then (some false) else ((offcutref01_Power.f k t325).bind fun t339 => ((offcutref01_Less.f (Dec.dec x) t339).bind fun t340 => (if t340 = true then ((offcutlaw01_awake.f k).bind fun t341 => (some t341)) else (some false))))))) else (some false)) else (some false)) else (some false))))))))) (fun k => by rw [offcutlaw01_NatShifts.j1]) ?_
    exact Dec.yes rfl (Ev.bind SH (NatShifts.is_ (by omega) b0 (Dec.end_ offcutlaw01_awake.ev)))
  by_cases a0 : a < 0
  · exact Dec.yes a0 (out (.inl a0))
  · refine Dec.no a0 ?_
    by_cases a1 : a > 65536
    · rw [decide_eq_true a1]
      exact out (.inr a1)
    · rw [decide_eq_false a1]
      obtain ⟨n, rfl⟩ : ∃ n : Nat, a = (n : Int) := ⟨a.toNat, by omega⟩
      have hn : n ≤ 200 := by omega
      have SH := nat_Shift.ev K0 (n := n) (by omega)
      rw [← hx] at SH
      refine Ev.step (f := fun k => if false = true then ((nat_Shift.f k l0 ((n : Int))).bind fun t320 => ((offcutlaw01_is.f k t320 (Dec.dec x)).bind fun t323 => (if t323 = true then ((offcutlaw01_awake.f k).bind fun t324 => (some t324)) else (some false)))) else ((nat_Bits.f k l0).bind fun t325 => (if (Dec.dec x).toList = ([48] : List UInt8) then (if t325 = 0 then ((nat_Shift.f k l0 ((n : Int))).bind fun t326 => ((offcutlaw01_is.f k t326 (⟨#[48]⟩ : ByteArray)).bind fun t329 => (if t329 = true then ((offcutlaw01_awake.f k).bind fun t330 => (some t330)) else (some false)))) else (some false)) else ((nat_Shift.f k l0 ((n : Int))).bind fun t331 => ((offcutref01_Power.f k ((n : Int))).bind fun t334 => ((offcutref01_Mul.f k (Dec.dec x) t334).bind fun t335 => ((offcutlaw01_is.f k t331 t335).bind fun t336 => (if t336 = true then (if t325 ≥ 1 then (if t325 ≤ 384 then ((offcutref01_Power.f k (wrap64 (t325 - 1))).bind fun t337 => ((offcutref01_Less.f (Dec.dec x) t337).bind fun t338 => (if t338 = true then (some false) else ((offcutref01_Power.f k t325).bind fun t339 => ((offcutref01_Less.f (Dec.dec x) t339).bind fun t340 => (if t340 = true then ((offcutlaw01_awake.f k).bind fun t341 => (some t341)) else (some false))))))) else (some false)) else (some false)) else (some false))))))))) (fun k => by rw [offcutlaw01_NatShifts.j1]) ?_
      refine Dec.no (by decide) (Ev.bind BI ?_)
      by_cases hx0 : x = 0
      · subst hx0
        rw [Nat.mul_zero] at SH
        refine Dec.yes ((Dec.dec_is0 0).2 rfl) (Dec.yes (by rw [Num.blen_zero]; rfl) (Ev.bind SH ?_))
        rw [← Dec.dec_zero]
        exact NatShifts.is_ (by omega) b0 (Dec.end_ offcutlaw01_awake.ev)
      · have hp : 2 ^ n < 2 ^ (32 * 8) := Nat.pow_lt_pow_right (by omega) (by omega)
        have dp := Dec.dc_len32 (by omega) hp
        have bp := Num.mul_lt hp b0
        have PO := offcutref01_Power.ev (n := n) (by omega)
        have MU := offcutref01_Mul.ev (Dec.Ds_dc x) (Dec.Ds_dc (2 ^ n)) (by omega) (by omega)
        rw [Dec.dv_dc, Dec.dv_dc, Nat.mul_comm] at MU
        have hb1 := Num.blen_lt x
        have hb2 := Num.blen_le hx0
        have hb3 : 1 ≤ Num.blen x := by rw [Num.blen_pos hx0]; omega
        have hb4 : Num.blen x ≤ 384 := by
          have h := (Nat.pow_lt_pow_iff_right (a := 2) (by omega)).1 (Nat.lt_of_le_of_lt hb2 b0)
          omega
        have P1 := offcutref01_Power.ev (n := Num.blen x - 1) (by omega)
        have P2 := offcutref01_Power.ev (n := Num.blen x) (by omega)
        refine Dec.no (fun e => hx0 ((Dec.dec_is0 x).1 e)) (Ev.bind SH (Ev.bind PO (Ev.bind MU (NatShifts.is_ (by omega) bp (Dec.yes (by omega) (Dec.yes (by omega) ?_))))))
        rw [Dec.w64p _ hb3 (by omega)]
        refine Ev.bind P1 (Dec.val (fun k => offcutref01_Less.sem _ _) (Dec.no ?_ (Ev.bind P2 (Dec.val (fun k => offcutref01_Less.sem _ _) (Dec.yes ?_ (Dec.end_ offcutlaw01_awake.ev))))))
        · rw [decide_eq_false (by omega)]
          decide
        · exact decide_eq_true hb1

end Go.Proofs.Ytmodmjeibbgdgaa.Pure
