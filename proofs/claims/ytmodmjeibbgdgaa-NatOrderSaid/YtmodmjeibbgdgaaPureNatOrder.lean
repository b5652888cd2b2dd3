import Derived.Test.YtmodmjeibbgdgaaPRx25
namespace Go.Proofs.Ytmodmjeibbgdgaa.Pure
open Go.RowKit Go.Proofs.Ytmodmjeibbgdgaa.PR Go.Proofs.YtmodmjeibbgdgaaW.PrintWords Go.Proofs.YtmodmjeibbgdgaaW.PrintLast

theorem NatOrder.ws {l : List Int} (h : ∀ x ∈ l, (Lit.int .u32 x).wf = true) : Num.Ws l := fun x hx => by
  have := h x hx
  simp [Lit.wf, IntKind.min, IntKind.max, IntKind.signed, IntKind.bits] at this
  omega

theorem NatOrder : offcutlaw01_NatOrder.Pure := by
  intro l0 l1 _ _ h0 _ _ h1
  have W0 := NatOrder.ws h0
  have W1 := NatOrder.ws h1
  clear h0 h1
  refine Ev.rounds ?_
  have early : Ev (fun k => offcutlaw01_NatOrder.j0 k l0 l1 true) true :=
    Ev.step (f := fun k => (offcutlaw01_awake.f k).bind fun t => some t) (fun k => by rw [offcutlaw01_NatOrder.j0, if_pos rfl]) (Ev.bind offcutlaw01_awake.ev (Ev.now _))
  by_cases c0 : l0.length ≤ 12
  · by_cases c1 : l1.length ≤ 12
    · refine Ev.congr (f := fun k => offcutlaw01_NatOrder.j0 k l0 l1 false) (fun k => ?_) ?_
      · unfold offcutlaw01_NatOrder.f offcutlaw01_few.f
        rw [decide_eq_true (by omega), decide_eq_true (by omega), Option.bind_some, if_pos rfl, Option.bind_some]
        rfl
      obtain ⟨x, hx⟩ : ∃ x, x = Num.nv l0 := ⟨_, rfl⟩
      obtain ⟨y, hy⟩ : ∃ y, y = Num.nv l1 := ⟨_, rfl⟩
      have O0 := offcutref01_Of.ev W0 (by omega)
      have O1 := offcutref01_Of.ev W1 (by omega)
      rw [← hx] at O0
      rw [← hy] at O1
      have K0 := Num.okw_of (by omega) W0
      have K1 := Num.okw_of (by omega) W1
      have hxl : (Num.nd x).length ≤ l0.length := by rw [hx]; exact Num.nd_length_le (Num.nv_lt W0)
      have hc : ∀ k, nat_Compare.f k l0 l1 = some (Num.cmp x y) := fun k => by unfold nat_Compare.f; rw [if_pos K0, if_pos K1, hx, hy]
      have h3 : Ev (fun k => offcutlaw01_NatOrder.j3 k l0 l1 (Num.cmp x y) false) true := by
        by_cases hl : (l0.length : Int) = 0
        · refine Ev.step (f := fun k => (nat_Compare.f k l0 l1).bind fun t253 => (if t253 = Num.cmp x y then ((nat_Right.f l0).bind fun t254 => (if (t254 == true) = true then ((offcutlaw01_awake.f k).bind fun t255 => (some t255)) else (some false))) else (some false))) (fun k => ?_) ?_
          · rw [offcutlaw01_NatOrder.j3, if_neg (by decide), if_pos hl]
          · refine Ev.bind (Ev.congr hc (Ev.now _)) ?_
            have hr : nat_Right.f l0 = some true := by rw [List.eq_nil_of_length_eq_zero (by omega : l0.length = 0)]; rfl
            refine Ev.congr (f := fun k => (offcutlaw01_awake.f k).bind fun t255 => (some t255)) (fun k => ?_) (Ev.bind offcutlaw01_awake.ev (Ev.now _))
            rw [if_pos rfl, hr, Option.bind_some, if_pos (beq_self_eq_true _)]
        · have e := Dec.w64p l0.length (by omega) (by omega)
          refine Ev.step (f := fun k => (nat_Compare.f k l0 l1).bind fun t257 => (if t257 = Num.cmp x y then ((nat_Right.f l0).bind fun t258 => (if (t258 == ((rd l0 (wrap64 ((l0.length : Int) - 1))) != 0)) = true then ((offcutlaw01_awake.f k).bind fun t259 => (some t259)) else (some false))) else (some false))) (fun k => ?_) ?_
          · rw [offcutlaw01_NatOrder.j3, if_neg (by decide), if_neg hl, if_pos (by rw [e]; omega), if_pos (by rw [e]; omega)]
          · refine Ev.bind (Ev.congr hc (Ev.now _)) ?_
            refine Ev.congr (f := fun k => (offcutlaw01_awake.f k).bind fun t255 => (some t255)) (fun k => ?_) (Ev.bind offcutlaw01_awake.ev (Ev.now _))
            rw [if_pos rfl, nat_Right.sem (by omega) (by omega), Option.bind_some, if_pos (beq_self_eq_true _)]
      have h2 : Ev (fun k => offcutlaw01_NatOrder.j2 k l0 l1 (Dec.dec x) (Num.cmp x y)) true := by
        by_cases hs : x < 18446744073709551616
        · have hsm : ∀ k, nat_Small.f k l0 = some ((x : Int), true) := fun k => by unfold nat_Small.f; rw [if_pos K0, ← hx, if_pos hs]
          refine Ev.step (f := fun k => (nat_Of.f k (x : Int)).bind fun t249 => ((offcutlaw01_is.f k t249 (Dec.dec x)).bind fun t252 => (if t252 = true then (offcutlaw01_NatOrder.j3 k l0 l1 (Num.cmp x y) false) else (offcutlaw01_NatOrder.j3 k l0 l1 (Num.cmp x y) true)))) (fun k => ?_) ?_
          · rw [offcutlaw01_NatOrder.j2, hsm, Option.bind_some, Dec.dec_2_64, offcutref01_Less.sem, Option.bind_some, decide_eq_true hs, if_neg (by simp), if_pos rfl]
          · refine Ev.bind (nat_Of.ev x hs) ?_
            have := offcutlaw01_is.ev_nd (n := x) (by omega) x
            rw [decide_eq_true rfl] at this
            refine Ev.bind this ?_
            exact h3
        · have hsm : ∀ k, nat_Small.f k l0 = some (0, false) := fun k => by unfold nat_Small.f; rw [if_pos K0, ← hx, if_neg hs]
          refine Ev.step (f := fun k => offcutlaw01_NatOrder.j3 k l0 l1 (Num.cmp x y) false) (fun k => ?_) h3
          rw [offcutlaw01_NatOrder.j2, hsm, Option.bind_some, Dec.dec_2_64, offcutref01_Less.sem, Option.bind_some, decide_eq_false hs, if_neg (by simp), if_neg (by simp)]
          rfl
      refine Ev.step (f := fun k => (offcutref01_Of.f k l0).bind fun t242 => ((offcutref01_Of.f k l1).bind fun t243 => ((offcutref01_Less.f t242 t243).bind fun t244 => (if t244 = true then (offcutlaw01_NatOrder.j1 k l0 l1 t242 t243 (-1)) else (offcutlaw01_NatOrder.j1 k l0 l1 t242 t243 0))))) (fun k => ?_) (Ev.bind O0 (Ev.bind O1 ?_))
      · rw [offcutlaw01_NatOrder.j0, if_neg (by decide)]
      · have j1 : ∀ c : Int, (if y < x then (1 : Int) else c) = Num.cmp x y → Ev (fun k => offcutlaw01_NatOrder.j1 k l0 l1 (Dec.dec x) (Dec.dec y) c) true := by
          intro c hcc
          by_cases hyx : y < x
          · rw [if_pos hyx] at hcc
            refine Ev.step (f := fun k => offcutlaw01_NatOrder.j2 k l0 l1 (Dec.dec x) 1) (fun k => ?_) (by rw [hcc]; exact h2)
            rw [offcutlaw01_NatOrder.j1, offcutref01_Less.sem, Option.bind_some, decide_eq_true hyx, if_pos rfl]
          · rw [if_neg hyx] at hcc
            refine Ev.step (f := fun k => offcutlaw01_NatOrder.j2 k l0 l1 (Dec.dec x) c) (fun k => ?_) (by rw [hcc]; exact h2)
            rw [offcutlaw01_NatOrder.j1, offcutref01_Less.sem, Option.bind_some, decide_eq_false hyx, if_neg (by decide)]
        by_cases hxy : x < y
        · refine Ev.congr (fun k => ?_) (j1 (-1) (by rw [if_neg (by omega), Num.cmp_lt hxy]))
          rw [offcutref01_Less.sem, Option.bind_some, decide_eq_true hxy, if_pos rfl]
        · refine Ev.congr (fun k => ?_) (j1 0 (by
            split
            · rw [Num.cmp_gt (by omega)]
            · rw [Num.cmp_eq (by omega)]))
          rw [offcutref01_Less.sem, Option.bind_some, decide_eq_false hxy, if_neg (by decide)]
    · refine Ev.congr (fun k => ?_) early
      unfold offcutlaw01_NatOrder.f offcutlaw01_few.f
      rw [decide_eq_true (by omega), decide_eq_false (by omega), Option.bind_some, if_pos rfl, Option.bind_some]
      rfl
  · refine Ev.congr (fun k => ?_) early
    unfold offcutlaw01_NatOrder.f offcutlaw01_few.f
    rw [decide_eq_false (by omega), Option.bind_some, if_neg (by decide)]

end Go.Proofs.Ytmodmjeibbgdgaa.Pure
