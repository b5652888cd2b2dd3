/- What the operations do to a state told by what its slots and variables hold. -/
import Derived.Test.YtcdkopidgibijaaLin
import Derived.Tactics
import Derived.Laws.NewFold
namespace Go.Proofs.Ytcdkopidgibijaa.Lin
open Go Go.RowKit Go.Proofs.YtcdkopidgibijaaW.PrintWords
variable {P : Program} {ops : Array Oper} {s : St} {o : Oper}

/-! ### Operands -/
def constDen : Value → Den
  | .slice none 0 0 => .rs (.el (.one (.row [])))
  | .agg _ => .any
  | .tuple _ => .any
  | v => .rs (.el (.one (.val v)))
def denOf (env : List (Nat × Den)) : Operand → Den
  | .tmp t => get env t
  | .const v => constDen v
  | _ => .any
def rdOp : Operand → List Nat
  | .tmp t => [2 * t]
  | _ => []
theorem seesRow_nil (w : World) (bad : Nat → Prop) : SeesA w bad (.slice none 0 0) (.row []) := ⟨none, 0, rfl, Nat.le_refl _, Kd.C_nil _ _, fun _ h => by cases h⟩
theorem constDen_sees (w : World) (bad : Nat → Prop) (ρ : Nat → Nat) (v : Value) : SeesD w bad ρ v (constDen v) := by
  unfold constDen
  split
  · exact seesRow_nil w bad
  · trivial
  · trivial
  · refine ⟨rfl, ?_⟩
    cases v <;> first | rfl | (rename_i h1 h2 h3; first | exact absurd rfl (h2 _) | exact absurd rfl (h3 _))
theorem eval_sees {rs : List Nat} {s' : St} {out : Nat → Prop} {w0 : Base} {ρ : Nat → Nat} {a : Act} {w : World} (hg : Agree rs s s') (hr : RelP out w0 ρ s' a w) (x : Operand) (hx : ∀ L ∈ rdOp x, L ∈ rs) : SeesD w (badOf out ρ s') ρ (a.eval x) (denOf s.env x) := by
  cases x with
  | tmp t =>
    have := hr.slots t
    rw [hg.env t (hx _ (by simp [rdOp]))] at this
    exact this
  | const v => exact constDen_sees _ _ _ _
  | global g => trivial
  | func f => trivial

/-! ### What a state becomes -/
theorem RelP.mono {out : Nat → Prop} {w0 : Base} {ρ : Nat → Nat} {a : Act} {w w' : World} (hr : RelP out w0 ρ s a w) (hb : Below w.heap.size w w') : RelP out w0 ρ s a w' := by
  have hm : Moves w (badOf out ρ s) w' (badOf out ρ s) := Moves.below hb
  refine ⟨hr.size, hr.defers, hr.pin, fun t => (hr.slots t).move hm, fun k T xs hk => ?_, hr.inj, hr.ptrs, hr.out_, hr.below.trans (hb.mono hr.below.size)⟩
  obtain ⟨h1, cs, h2, h3⟩ := hr.boxes k T xs hk
  exact ⟨h1, cs, (hb.block _ (Array.getElem?_eq_some_iff.1 h2).1).trans h2, h3.move hm⟩
theorem getD_put {a : Act} {t u : Nat} {v : Value} (ht : t < a.tmps.size) : (a.put (some t) v).tmps.getD u undef = if t = u then v else a.tmps.getD u undef := by
  show (a.tmps.setIfInBounds t v).getD u undef = _
  by_cases e : t = u
  · subst e; simp [ht]
  · rw [if_neg e]
    simp [Array.getElem?_setIfInBounds_ne e]
theorem RelP.put {out : Nat → Prop} {w0 : Base} {ρ : Nat → Nat} {a : Act} {w : World} {t : Nat} {v : Value} {d : Den} (hr : RelP out w0 ρ s a w) (ht : t < s.n) (hv : SeesD w (badOf out ρ s) ρ v d) (hp : ∀ k, k ∈ d.ks → (boxOf s.box k).isSome = true) : Rel out w0 ((Wr.slot t d).app s) (a.put (some t) v) w := by
  refine ⟨ρ, ?_, hr.defers, hr.pin, fun u => ?_, hr.boxes, hr.inj, fun u k hu => ?_, hr.out_, hr.below⟩
  · show (a.tmps.setIfInBounds t v).size = s.n
    rw [Array.size_setIfInBounds]
    exact hr.size
  · rw [getD_put (by rw [hr.size]; exact ht)]
    show SeesD w (badOf out ρ s) ρ _ (get ((t, d) :: s.env) u)
    by_cases e : t = u
    · subst e; rw [if_pos rfl, get_same]; exact hv
    · rw [if_neg e, get_other e]; exact hr.slots u
  · by_cases e : t = u
    · subst e; exact hp k (by have hu : k ∈ (get ((t, d) :: s.env) t).ks := hu; rwa [get_same] at hu)
    · exact hr.ptrs u k (by have hu : k ∈ (get ((t, d) :: s.env) u).ks := hu; rwa [get_other e] at hu)
/-- A new variable. -/
theorem RelP.alloc {out : Nat → Prop} {w0 : Base} {ρ : Nat → Nat} {a : Act} {w : World} {t : Nat} {T : TypeId} {cs : List Value} {xs : List At} (hr : RelP out w0 ρ s a w) (ht : t < s.n) (hf : boxOf s.box t = none) (hc : SeesL w (badOf out ρ s) cs xs) :
    Rel out w0 ((Wr.new t T xs).app s) (a.put (some t) (.pointer (some ⟨w.heap.size, 0, none⟩))) (w.alloc (.cells cs.toArray T (0, 0))) := by
  let ρ' : Nat → Nat := fun k => if k = t then w.heap.size else ρ k
  have hbelow : Below w.heap.size w (w.alloc (.cells cs.toArray T (0, 0))) := (Below.refl _ _).alloc (Nat.le_refl _) _
  have hold : ∀ k, (boxOf s.box k).isSome = true → k ≠ t := fun k hk e => by rw [e, hf] at hk; cases hk
  have hlt : ∀ k, (boxOf s.box k).isSome = true → ρ k < w.heap.size := fun k hk => by
    obtain ⟨⟨T', xs'⟩, hx⟩ := Option.isSome_iff_exists.1 hk
    obtain ⟨_, cs', h2, _⟩ := hr.boxes k T' xs' hx
    exact (Array.getElem?_eq_some_iff.1 h2).1
  have hm : Moves w (badOf out ρ s) (w.alloc (.cells cs.toArray T (0, 0))) (badOf out ρ' ((Wr.new t T xs).app s)) := Moves.belowNew hbelow (fun b hb => by
    rcases hb with hb | ⟨k, hk, hb⟩
    · exact .inl (.inl hb)
    · by_cases e : k = t
      · subst e
        exact .inr (by rw [← hb]; simp [ρ'])
      · refine .inl (.inr ⟨k, ?_, ?_⟩)
        · have := boxOf_other (Ne.symm e) (T, xs) s.box
          rw [← this]
          exact hk
        · rw [← hb]
          simp [ρ', e])
  have hden : ∀ {v : Value} {d : Den}, (∀ k, k ∈ d.ks → k ≠ t) → SeesD w (badOf out ρ s) ρ v d → SeesD (w.alloc (.cells cs.toArray T (0, 0))) (badOf out ρ' ((Wr.new t T xs).app s)) ρ' v d := by
    intro v d hd h
    cases d with
    | rs r => exact SeesR.move hm h
    | ptr k off => rw [show v = _ from h]; simp [SeesD, ρ', hd k (by simp [Den.ks])]
    | clo f ks =>
      rw [show v = _ from h]
      show _ = Value.func _ _ _
      congr 2
      exact List.map_congr_left (fun k hk => by simp [ρ', hd k hk])
    | und => exact h
    | any => trivial
  have hL : SeesL (w.alloc (.cells cs.toArray T (0, 0))) (badOf out ρ' ((Wr.new t T xs).app s)) cs xs := hc.move hm
  have hat : ρ' t = w.heap.size := by simp [ρ']
  have hother : ∀ k, k ≠ t → ρ' k = ρ k := fun k e => by simp [ρ', e]
  have hbo : ∀ k, k ≠ t → boxOf ((Wr.new t T xs).app s).box k = boxOf s.box k := fun k e => boxOf_other (Ne.symm e) _ _
  have hbs : boxOf ((Wr.new t T xs).app s).box t = some (T, xs) := boxOf_same _ _ _
  refine ⟨ρ', ?_, hr.defers, fun k hk => (hother k (fun e => by subst e; exact Nat.lt_irrefl _ (Nat.lt_of_lt_of_le ht hk))).trans (hr.pin k hk), fun u => ?_, fun k T' xs' hk => ?_, fun k k' h1 h2 he => ?_, fun u k hu => ?_, hr.out_, hr.below.trans (hbelow.mono hr.below.size)⟩
  · show (a.tmps.setIfInBounds t _).size = s.n
    rw [Array.size_setIfInBounds]
    exact hr.size
  · rw [getD_put (by rw [hr.size]; exact ht)]
    show SeesD _ _ _ _ (get ((t, .ptr t 0) :: s.env) u)
    by_cases e : t = u
    · subst e
      rw [if_pos rfl, get_same]
      show _ = Value.pointer (some ⟨ρ' t, 0, none⟩)
      rw [hat]
    · rw [if_neg e, get_other e]
      exact hden (fun k hd => hold k (hr.ptrs u k hd)) (hr.slots u)
  · by_cases e : k = t
    · subst e
      rw [hbs] at hk
      cases hk
      rw [hat]
      refine ⟨fun _ => hr.below.size, cs, ?_, hL⟩
      show (w.heap.push _)[w.heap.size]? = _
      simp
    · rw [hbo k e] at hk
      obtain ⟨h1, cs', h2, h3⟩ := hr.boxes k T' xs' hk
      rw [hother k e]
      exact ⟨h1, cs', (hbelow.block _ (Array.getElem?_eq_some_iff.1 h2).1).trans h2, h3.move hm⟩
  · by_cases e : k = t
    · by_cases e' : k' = t
      · rw [e, e']
      · rw [hbo k' e'] at h2
        rw [e, hat, hother k' e'] at he
        exact absurd he (Nat.ne_of_gt (hlt k' h2))
    · rw [hbo k e] at h1
      by_cases e' : k' = t
      · rw [e', hat, hother k e] at he
        exact absurd he (Nat.ne_of_lt (hlt k h1))
      · rw [hbo k' e'] at h2
        rw [hother k e, hother k' e'] at he
        exact hr.inj k k' h1 h2 he
  · have : k ∈ (get ((t, Den.ptr t 0) :: s.env) u).ks := hu
    by_cases e : t = u
    · subst e
      rw [get_same] at this
      obtain rfl : k = t := by simpa [Den.ks] using this
      rw [hbs]
      rfl
    · rw [get_other e] at this
      have := hr.ptrs u k this
      rw [hbo k (hold k this)]
      exact this
/-- A variable turned. -/
theorem RelP.turn {out : Nat → Prop} {w0 : Base} {ρ : Nat → Nat} {a : Act} {w w' : World} {k : Nat} {T : TypeId} {xs xs' : List At} {cs' : List Value} (hr : RelP out w0 ρ s a w) (hk : boxOf s.box k = some (T, xs)) (hro : k < 1000)
    (hw : w'.heap[ρ k]? = some (.cells cs'.toArray T (0, 0))) (ho : ∀ b, b ≠ ρ k → w'.heap[b]? = w.heap[b]?) (hs : w.heap.size ≤ w'.heap.size) (hos : w'.os = w.os) (htp : w'.tape = w.tape) (hout : w'.output = w.output) (hc : SeesL w (badOf out ρ s) cs' xs') : Rel out w0 ((Wr.box k T xs').app s) a w' := by
  have hbad : badOf out ρ s (ρ k) := .inr ⟨k, by rw [hk]; rfl, rfl⟩
  have hsame : badOf out ρ ((Wr.box k T xs').app s) = badOf out ρ s := by
    funext b
    refine propext (or_congr_right ⟨?_, ?_⟩)
    · rintro ⟨j, hj, e⟩
      by_cases ej : k = j
      · subst ej; exact ⟨k, by rw [hk]; rfl, e⟩
      · exact ⟨j, by rw [← hj]; exact (congrArg Option.isSome (boxOf_other ej (T, xs') s.box)).symm, e⟩
    · rintro ⟨j, hj, e⟩
      by_cases ej : k = j
      · subst ej; exact ⟨k, by show (boxOf ((k, T, xs') :: s.box) k).isSome = true; rw [boxOf_same]; rfl, e⟩
      · exact ⟨j, by rw [← hj]; exact congrArg Option.isSome (boxOf_other ej (T, xs') s.box), e⟩
  have hm : Moves w (badOf out ρ s) w' (badOf out ρ ((Wr.box k T xs').app s)) := by rw [hsame]; exact Moves.turned hbad ho
  have hsome : ∀ j, (boxOf ((Wr.box k T xs').app s).box j).isSome = true → (boxOf s.box j).isSome = true := by
    intro j hj
    by_cases ej : k = j
    · subst ej; rw [hk]; rfl
    · rw [← hj]; exact (congrArg Option.isSome (boxOf_other ej (T, xs') s.box)).symm
  have h0 := hr.boxes k T xs hk
  refine ⟨ρ, hr.size, hr.defers, hr.pin, fun u => (hr.slots u).move hm, fun j T' ys hj => ?_, fun j j' h1 h2 => hr.inj j j' (hsome j h1) (hsome j' h2), fun u j hu => ?_, hr.out_, ?_⟩
  · by_cases ej : k = j
    · subst ej
      have : boxOf ((Wr.box k T xs').app s).box k = some (T, xs') := boxOf_same _ _ _
      rw [this] at hj
      cases hj
      exact ⟨h0.1, cs', hw, hc.move hm⟩
    · have : boxOf ((Wr.box k T xs').app s).box j = boxOf s.box j := boxOf_other ej _ _
      rw [this] at hj
      obtain ⟨h1, cs, h2, h3⟩ := hr.boxes j T' ys hj
      have hne : ρ j ≠ ρ k := fun e => ej (hr.inj k j (by rw [hk]; rfl) (by rw [hj]; rfl) e.symm)
      exact ⟨h1, cs, (ho _ hne).trans h2, h3.move hm⟩
  · have := hr.ptrs u j hu
    by_cases ej : k = j
    · subst ej; show (boxOf ((k, T, xs') :: s.box) k).isSome = true; rw [boxOf_same]; rfl
    · rw [← this]; exact congrArg Option.isSome (boxOf_other ej (T, xs') s.box)
  · exact ⟨hos.trans hr.below.os, htp.trans hr.below.tape, hout.trans hr.below.output, Nat.le_trans hr.below.size hs, fun b hb => (ho b (fun e => by have := h0.1 hro; omega)).trans (hr.below.block b hb)⟩

theorem RelP.bad_lt {out : Nat → Prop} {w0 : Base} {ρ : Nat → Nat} {a : Act} {w : World} (hr : RelP out w0 ρ s a w) (b : Nat) (hb : badOf out ρ s b) : b < w.heap.size := by
  rcases hb with hb | ⟨k, hk, rfl⟩
  · exact Nat.lt_of_lt_of_le (hr.out_ b hb) hr.below.size
  · obtain ⟨⟨T, xs⟩, hx⟩ := Option.isSome_iff_exists.1 hk
    obtain ⟨_, cs, h2, _⟩ := hr.boxes k T xs hx
    exact (Array.getElem?_eq_some_iff.1 h2).1

/-! ### Guards -/
def rdGuard (ops : Array Oper) (o : Oper) : List Nat := match o.guard with
  | none => []
  | some (j, _) => match (ops[j]?).bind (·.dst) with
    | some d => [2 * d]
    | none => []
/-- none: not known; some b: it is, or is not, carried out. -/
def guardIs (ops : Array Oper) (env : List (Nat × Den)) (o : Oper) : Option Bool := match o.guard with
  | none => some true
  | some (j, b) => match (ops[j]?).bind (·.dst) with
    | some d => match get env d with
      | .rs (.el (.one (.val (.bool c)))) => some (c == b)
      | .und => some false
      | _ => none
    | none => none
theorem wanted_is {rs : List Nat} {s' : St} {out : Nat → Prop} {w0 : Base} {ρ : Nat → Nat} {a : Act} {w : World} {c : Bool} (hg : Agree rs s s') (hr : RelP out w0 ρ s' a w) (hb : guardIs ops s.env o = some c) (hs : ∀ L ∈ rdGuard ops o, L ∈ rs) : Region.wanted o (yielded ops a.tmps) = c := by
  unfold guardIs at hb
  unfold Region.wanted
  unfold rdGuard at hs
  cases hgd : o.guard with
  | none => simp only [hgd] at hb; exact Option.some.inj hb
  | some jb =>
    obtain ⟨j, b⟩ := jb
    simp only [hgd] at hb hs ⊢
    cases hd : (ops[j]?).bind (·.dst) with
    | none => simp [hd] at hb
    | some d =>
      simp only [hd] at hb hs
      have h1 := hr.slots d
      rw [hg.env d (hs _ (by simp))] at h1
      split at hb
      · rename_i x hx
        rw [hx] at h1
        have h2 : a.tmps.getD d undef = .bool x := h1.1
        have h3 : a.tmps[d]? = some (.bool x) := by
          rw [Array.getD_eq_getD_getElem?] at h2
          cases h4 : a.tmps[d]? with
          | none => rw [h4] at h2; cases h2
          | some v => rw [h4] at h2; exact congrArg some h2
        unfold yielded
        rw [hd]
        simp only [Option.bind_some, h3]
        rw [← Option.some.inj hb]
        cases x <;> cases b <;> rfl
      · rename_i hx
        rw [hx] at h1
        have h2 : a.tmps.getD d undef = undef := h1
        have h3 : yielded ops a.tmps j = none := by
          unfold yielded
          rw [hd]
          simp only [Option.bind_some]
          rw [Array.getD_eq_getD_getElem?] at h2
          cases h4 : a.tmps[d]? with
          | none => rfl
          | some v => rw [h4] at h2; rw [show v = undef from h2]; rfl
        rw [h3, ← Option.some.inj hb]
        rfl
      · cases hb
theorem step_off {t : Nat} {rs : List Nat} (hd : o.dst = some t) (ht : t < s.n) (hb : guardIs ops s.env o = some false) (hs : ∀ L ∈ rdGuard ops o, L ∈ rs) : StepOk P ops s o rs (.slot t .und) := by
  rintro out w0 s' a w hg ⟨ρ, hr⟩ K Q hK
  rw [wanted_is hg hr hb hs, if_neg (by decide), hd]
  exact hK _ _ (hr.put (by rw [hg.n]; exact ht) rfl (fun _ h => by cases h))
theorem step_on {rs : List Nat} {x : Wr} (hb : guardIs ops s.env o = some true) (hs : ∀ L ∈ rdGuard ops o, L ∈ rs)
    (h : ∀ (out : Nat → Prop) (w0 : Base) (s' : St) (ρ : Nat → Nat) (a : Act) (w : World), Agree rs s s' → RelP out w0 ρ s' a w → ∀ (K : Act → World → Prop) (Q : Exit → Act → World → Prop), (∀ a' w', Rel out w0 (x.app s') a' w' → K a' w') → o.wp P a w K Q) : StepOk P ops s o rs x := by
  rintro out w0 s' a w hg ⟨ρ, hr⟩ K Q hK
  rw [wanted_is hg hr hb hs, if_pos rfl]
  exact h out w0 s' ρ a w hg hr K Q hK
/-- An operation that yields a value whatever the world. -/
theorem step_yields {t : Nat} {rs : List Nat} {d : Den} (hd : o.dst = some t) (ht : t < s.n) (hb : guardIs ops s.env o = some true) (hs : ∀ L ∈ rdGuard ops o, L ∈ rs) 
    (h : ∀ (out : Nat → Prop) (w0 : Base) (s' : St) (ρ : Nat → Nat) (a : Act) (w : World), Agree rs s s' → RelP out w0 ρ s' a w → ∃ v, (execOp a.eval o).run P w = .ok (.value v) w ∧ SeesD w (badOf out ρ s') ρ v d ∧ ∀ k, k ∈ d.ks → (boxOf s'.box k).isSome = true) : StepOk P ops s o rs (.slot t d) :=
  step_on hb hs fun out w0 s' ρ a w hg hr K Q hK => by
    obtain ⟨v, h1, h2, h3⟩ := h out w0 s' ρ a w hg hr
    unfold Oper.wp
    rw [h1, Oper.upon_value, hd]
    exact hK _ _ (hr.put (by rw [hg.n]; exact ht) h2 h3)
theorem ptr_some {rs : List Nat} {s' : St} {out : Nat → Prop} {w0 : Base} {ρ : Nat → Nat} {a : Act} {w : World} (hg : Agree rs s s') (hr : RelP out w0 ρ s' a w) {x : Operand} (hx : ∀ L ∈ rdOp x, L ∈ rs) {k : Nat} (hd : k ∈ (denOf s.env x).ks) : (boxOf s'.box k).isSome = true := by
  cases x with
  | tmp t => exact hr.ptrs t k (by rw [hg.env t (hx _ (by simp [rdOp]))]; exact hd)
  | const v =>
    have hd : k ∈ (constDen v).ks := hd
    unfold constDen at hd
    split at hd <;> cases hd
  | global g => cases hd
  | func f => cases hd
theorem step_move {t : Nat} {rs : List Nat} {x : Operand} (hop : o.op = .move x ∨ o.op = .assign x) (hd : o.dst = some t) (ht : t < s.n) (hb : guardIs ops s.env o = some true) (hs : ∀ L ∈ rdGuard ops o, L ∈ rs) (hx : ∀ L ∈ rdOp x, L ∈ rs) : StepOk P ops s o rs (.slot t (denOf s.env x)) :=
  step_yields hd ht hb hs fun out w0 s' ρ a w hg hr => ⟨a.eval x, by
    unfold execOp
    rcases hop with hop | hop <;> simp only [hop] <;> rfl, eval_sees hg hr x hx, fun k e => ptr_some hg hr hx e⟩
/-! ### Values -/
def valsOf : List At → Option (List Value)
  | [] => some []
  | .val v :: r => (valsOf r).map (v :: ·)
  | _ :: _ => none
def valOf : Den → Option Value
  | .rs (.el (.one (.val v))) => some v
  | .rs (.el (.agg xs)) => (valsOf xs).map fun vs => .agg vs.toArray
  | _ => none
theorem SeesL.tail {w : World} {bad : Nat → Prop} {v : Value} {cs : List Value} {x : At} {xs : List At} (h : SeesL w bad (v :: cs) (x :: xs)) : SeesA w bad v x ∧ SeesL w bad cs xs :=
  ⟨h.at_ 0 v x rfl rfl, by simpa using h.len, fun i u y h1 h2 => h.at_ (i + 1) u y (by simpa using h1) (by simpa using h2)⟩
theorem SeesL.cons {w : World} {bad : Nat → Prop} {v : Value} {cs : List Value} {x : At} {xs : List At} (h : SeesA w bad v x) (h2 : SeesL w bad cs xs) : SeesL w bad (v :: cs) (x :: xs) :=
  ⟨by simp [h2.len], fun i u y g1 g2 => by
    cases i with
    | zero => cases g1; cases g2; exact h
    | succ i => exact h2.at_ i u y (by simpa using g1) (by simpa using g2)⟩
theorem SeesL.nil {w : World} {bad : Nat → Prop} : SeesL w bad [] [] := ⟨rfl, fun _ _ _ h => by simp at h⟩
theorem valsOf_eq {w : World} {bad : Nat → Prop} : ∀ {cs : List Value} {xs : List At} {vs : List Value}, SeesL w bad cs xs → valsOf xs = some vs → cs = vs
  | [], [], vs, _, h => by cases h; rfl
  | [], _ :: _, _, h, _ => by cases h.len
  | _ :: _, [], _, h, _ => by cases h.len
  | c :: cs, x :: xs, vs, h, hv => by
    obtain ⟨h1, h2⟩ := h.tail
    cases x with
    | row l => cases hv
    | rats l => cases hv
    | prat l => cases hv
    | val u =>
      simp only [valsOf, Option.map_eq_some_iff] at hv
      obtain ⟨vs', hv', rfl⟩ := hv
      rw [valsOf_eq h2 hv', h1.1]
theorem valOf_eq {w : World} {bad : Nat → Prop} {ρ : Nat → Nat} {v u : Value} {d : Den} (h : SeesD w bad ρ v d) (hv : valOf d = some u) : v = u := by
  unfold valOf at hv
  split at hv
  · cases hv; exact h.1
  · simp only [Option.map_eq_some_iff] at hv
    obtain ⟨vs, hv, rfl⟩ := hv
    obtain ⟨cs, rfl, hc⟩ := h
    rw [valsOf_eq hc hv]
  · cases hv
/-- An operation on values alone. -/
theorem step_val {t : Nat} {rs : List Nat} {v : Value} (xs : List Operand) (us : List Value) (hd : o.dst = some t) (ht : t < s.n) (hb : guardIs ops s.env o = some true) (hs : ∀ L ∈ rdGuard ops o, L ∈ rs) (hx : ∀ x ∈ xs, ∀ L ∈ rdOp x, L ∈ rs)
    (hu : xs.map (fun x => valOf (denOf s.env x)) = us.map some) (hv : v.oneCell' = true) (hrun : ∀ (a : Act) (w : World), xs.map a.eval = us → (execOp a.eval o).run P w = .ok (.value v) w) : StepOk P ops s o rs (.slot t (.rs (.el (.one (.val v))))) :=
  step_yields hd ht hb hs fun out w0 s' ρ a w hg hr => ⟨v, hrun a w (by
    have : ∀ (xs : List Operand) (us : List Value), (∀ x ∈ xs, ∀ L ∈ rdOp x, L ∈ rs) → xs.map (fun x => valOf (denOf s.env x)) = us.map some → xs.map a.eval = us := by
      intro xs
      induction xs with
      | nil => intro us _ h; cases us with
        | nil => rfl
        | cons => cases h
      | cons x xs ih => intro us hx h; cases us with
        | nil => cases h
        | cons u us =>
          simp only [List.map_cons, List.cons.injEq] at h ⊢
          exact ⟨valOf_eq (eval_sees hg hr x (hx x List.mem_cons_self)) h.1, ih us (fun y hy => hx y (List.mem_cons_of_mem _ hy)) h.2⟩
    exact this xs us hx hu), ⟨rfl, hv⟩, fun _ h => by cases h⟩
/-! ### Made of parts, and taken apart -/
theorem step_extract {t i : Nat} {rs : List Nat} {x : Operand} {es : List El} {e : El} (hop : o.op = .extract x i) (hd : o.dst = some t) (ht : t < s.n) (hb : guardIs ops s.env o = some true) (hs : ∀ L ∈ rdGuard ops o, L ∈ rs) (hx : ∀ L ∈ rdOp x, L ∈ rs)
    (hden : denOf s.env x = .rs (.tup es)) (he : es[i]? = some e) : StepOk P ops s o rs (.slot t (.rs (.el e))) :=
  step_yields hd ht hb hs fun out w0 s' ρ a w hg hr => by
    have h1 := eval_sees hg hr x hx
    rw [hden] at h1
    obtain ⟨vs, hv, hl, hh⟩ := h1
    obtain ⟨u, hu⟩ : ∃ u, vs[i]? = some u := ⟨_, List.getElem?_eq_getElem (by have := (List.getElem?_eq_some_iff.1 he).1; omega)⟩
    refine ⟨u, ?_, hh i u e hu he, fun _ h => by cases h⟩
    unfold execOp
    simp [hop, hv, Instr.extract, hu]
def isRowT (P : Program) (T : TypeId) : Bool := match P.underlying T with
  | some (.struct _) => true
  | some (.array _ _) => true
  | _ => false
def isOneT (P : Program) (T : TypeId) : Bool := match P.underlying T with
  | some (.struct _) => false
  | some (.array _ _) => false
  | some _ => true
  | none => false
def sizeT (P : Program) (T : TypeId) : Option Nat := (P.info? T).map (·.size)
theorem isAgg_one (T : TypeId) (h : isOneT P T = true) (w : World) : (isAgg T).run P w = .ok false w := by
  unfold isOneT at h
  unfold isAgg
  cases hu : P.underlying T with
  | none => rw [hu] at h; cases h
  | some d =>
    rw [hu] at h
    rw [Sem.run_bind, run_underlying hu w]
    cases d <;> first | rfl | cases h
theorem isRow_some {T : TypeId} (h : isRowT P T = true) : ∃ d, P.underlying T = some d ∧ d.isRow = true := by
  unfold isRowT at h
  cases hu : P.underlying T with
  | none => rw [hu] at h; cases h
  | some d =>
    rw [hu] at h
    cases d <;> first | exact ⟨_, rfl, rfl⟩ | cases h
theorem run_load_one {T : TypeId} (h : isOneT P T = true) {w : World} {p : Addr} {v : Value} (hc : w.cell? p = some v) : (Instr.loadAt T (.pointer (some p))).run P w = .ok v w := by
  simp [Instr.loadAt, Instr.sureAddr, loadVar, Sem.run_bind, isAgg_one T h w, load, Sem.run, hc]
theorem cell_of_box {w : World} {g j : Nat} {cs : List Value} {T : TypeId} (h : w.heap[g]? = some (.cells cs.toArray T (0, 0))) : w.cell? ⟨g, j, none⟩ = cs[j]? := by
  unfold World.cell?
  simp [h]
theorem SeesL.range {w : World} {bad : Nat → Prop} {cs : List Value} {xs : List At} (h : SeesL w bad cs xs) (i n : Nat) : SeesL w bad ((cs.drop i).take n) ((xs.drop i).take n) :=
  ⟨by simp [h.len], fun j v x h1 h2 => by
    rw [List.getElem?_take] at h1 h2
    split at h1
    · rename_i hlt
      rw [if_pos hlt, List.getElem?_drop] at h2
      rw [List.getElem?_drop] at h1
      exact h.at_ _ _ _ h1 h2
    · cases h1⟩
/-- A whole struct out of a variable (or a part of it). -/
theorem step_load {t k off n : Nat} {rs : List Nat} {x : Operand} {T T0 : TypeId} {xs : List At} (hop : o.op = .load T x) (hd : o.dst = some t) (ht : t < s.n) (hb : guardIs ops s.env o = some true) (hs : ∀ L ∈ rdGuard ops o, L ∈ rs) (hx : ∀ L ∈ rdOp x, L ∈ rs)
    (hden : denOf s.env x = .ptr k off) (hk : boxOf s.box k = some (T0, xs)) (hkr : 2 * k + 1 ∈ rs) (hT : isRowT P T = true) (hn : sizeT P T = some n) (hle : off + n ≤ xs.length) : StepOk P ops s o rs (.slot t (.rs (.el (.agg ((xs.drop off).take n))))) :=
  step_yields hd ht hb hs fun out w0 s' ρ a w hg hr => by
    have h1 := eval_sees hg hr x hx
    rw [hden] at h1
    have hk' := hg.box k hkr
    rw [hk] at hk'
    obtain ⟨_, cs, h2, h3⟩ := hr.boxes k T0 xs hk'
    obtain ⟨d, hu, hdd⟩ := isRow_some hT
    have hlen : ((cs.drop off).take n).length = n := by rw [List.length_take, List.length_drop, h3.len]; omega
    have hrun := run_loadAt_mid (P := P) w (ρ k) off T ((cs.drop off).take n) d (fun j v hv => by
      rw [cell_of_box h2]
      rw [List.getElem?_take] at hv
      split at hv
      · rwa [List.getElem?_drop] at hv
      · cases hv) hu hdd (by rw [hlen]; exact hn)
    refine ⟨.agg ((cs.drop off).take n).toArray, ?_, ⟨_, rfl, h3.range off n⟩, fun _ h => by cases h⟩
    unfold execOp
    simp only [hop]
    rw [show a.eval x = _ from h1]
    simp only [Sem.run_bind, hrun]
    rfl
theorem step_load1 {t k off : Nat} {rs : List Nat} {x : Operand} {T T0 : TypeId} {xs : List At} {y : At} (hop : o.op = .load T x) (hd : o.dst = some t) (ht : t < s.n) (hb : guardIs ops s.env o = some true) (hs : ∀ L ∈ rdGuard ops o, L ∈ rs) (hx : ∀ L ∈ rdOp x, L ∈ rs)
    (hden : denOf s.env x = .ptr k off) (hk : boxOf s.box k = some (T0, xs)) (hkr : 2 * k + 1 ∈ rs) (hT : isOneT P T = true) (hy : xs[off]? = some y) : StepOk P ops s o rs (.slot t (.rs (.el (.one y)))) :=
  step_yields hd ht hb hs fun out w0 s' ρ a w hg hr => by
    have h1 := eval_sees hg hr x hx
    rw [hden] at h1
    have hk' := hg.box k hkr
    rw [hk] at hk'
    obtain ⟨_, cs, h2, h3⟩ := hr.boxes k T0 xs hk'
    obtain ⟨u, hu⟩ : ∃ u, cs[off]? = some u := ⟨_, List.getElem?_eq_getElem (by have := (List.getElem?_eq_some_iff.1 hy).1; have := h3.len; omega)⟩
    refine ⟨u, ?_, h3.at_ off u y hu hy, fun _ h => by cases h⟩
    unfold execOp
    simp only [hop]
    rw [show a.eval x = _ from h1]
    simp only [Sem.run_bind, run_load_one hT ((cell_of_box h2).trans hu)]
    rfl
/-- The place of a field. -/
def fieldT (P : Program) (T : TypeId) (f : Nat) : Option Nat := match P.underlying T with
  | some (.struct fs) => match fs[f]? with
    | some fl => match P.info? fl.type with
      | some i => if i.size = 0 then none else some fl.offset
      | none => none
    | none => none
  | _ => none
theorem step_fieldAddr {t k off f d : Nat} {rs : List Nat} {x : Operand} {T : TypeId} (hop : o.op = .fieldAddr T x f) (hd : o.dst = some t) (ht : t < s.n) (hb : guardIs ops s.env o = some true) (hs : ∀ L ∈ rdGuard ops o, L ∈ rs) (hx : ∀ L ∈ rdOp x, L ∈ rs)
    (hden : denOf s.env x = .ptr k off) (hf : fieldT P T f = some d) : StepOk P ops s o rs (.slot t (.ptr k (off + d))) :=
  step_yields hd ht hb hs fun out w0 s' ρ a w hg hr => by
    have h1 := eval_sees hg hr x hx
    rw [hden] at h1
    refine ⟨.pointer (some ⟨ρ k, off + d, none⟩), ?_, rfl, fun k' h => ptr_some hg hr hx (by rw [hden]; exact h)⟩
    unfold fieldT at hf
    split at hf
    · rename_i fs hu
      split at hf
      · rename_i fl hfl
        split at hf
        · rename_i i hi
          split at hf
          · cases hf
          · rename_i hne
            cases hf
            unfold execOp
            simp only [hop]
            rw [show a.eval x = _ from h1]
            simp [Instr.fieldAt, run_underlying hu, hfl, Instr.sureAddr, fieldPlace, sizeOf, typeInfo, hi, hne, Addr.add_mid]
        · cases hf
      · cases hf
    · cases hf

/-! ### Variables -/
def flat : El → List At
  | .one x => [x]
  | .agg xs => xs
theorem flat_sees {w : World} {bad : Nat → Prop} {v : Value} {e : El} (h : SeesE w bad v e) : ∃ cs : List Value, v.cells = cs.toArray ∧ SeesL w bad cs (flat e) ∧ ∀ u ∈ cs, u.oneCell' = true := by
  cases e with
  | one x =>
    have h1 : v.oneCell' = true := SeesA.one h
    exact ⟨[v], by (cases v <;> first | rfl | cases h1), SeesL.cons h SeesL.nil, fun u hu => by rw [List.mem_singleton.1 hu]; exact h1⟩
  | agg xs =>
    obtain ⟨cs, rfl, h⟩ := h
    refine ⟨cs, rfl, h, fun u hu => ?_⟩
    obtain ⟨i, hi, rfl⟩ := List.mem_iff_getElem.1 hu
    exact SeesA.one (h.at_ i _ (xs[i]'(by have := h.len; omega)) (List.getElem?_eq_getElem hi) (List.getElem?_eq_getElem _))
theorem step_box {t : Nat} {rs : List Nat} {x : Operand} {T : TypeId} {e : El} (hop : o.op = .box T x) (hd : o.dst = some t) (ht : t < s.n) (hb : guardIs ops s.env o = some true) (hs : ∀ L ∈ rdGuard ops o, L ∈ rs) (hx : ∀ L ∈ rdOp x, L ∈ rs)
    (hden : denOf s.env x = .rs (.el e)) (hf : boxOf s.box t = none) (htr : 2 * t + 1 ∈ rs) : StepOk P ops s o rs (.new t T (flat e)) :=
  step_on hb hs fun out w0 s' ρ a w hg hr K Q hK => by
    have h1 := eval_sees hg hr x hx
    rw [hden] at h1
    obtain ⟨cs, h2, h3, _⟩ := flat_sees h1
    have := hK _ _ (hr.alloc (T := T) (t := t) (by rw [hg.n]; exact ht) ((hg.box t htr).trans hf) h3)
    unfold Oper.wp execOp
    simp only [hop, Instr.box, newVar, newRow, Sem.run_bind, run_newObj_alloc, Result.andThen_ok, Sem.run_pure, h2, hd, Oper.upon_value]
    exact this
def atOf : Value → At
  | .slice none 0 0 => .row []
  | v => .val v
theorem atOf_sees (w : World) (bad : Nat → Prop) {v : Value} (h : v.oneCell' = true) : SeesA w bad v (atOf v) := by
  unfold atOf
  split
  · exact seesRow_nil w bad
  · exact ⟨rfl, h⟩
/-- The cells of a type's zero. -/
def zeroT (P : Program) (T : TypeId) : Option (List Value) := match (P.info? T).bind (·.zero) with
  | some z => bif z.cells.toList.all Value.oneCell' then some z.cells.toList else none
  | none => none
theorem step_alloc {t : Nat} {rs : List Nat} {T : TypeId} {cs : List Value} (hop : o.op = .alloc T) (hd : o.dst = some t) (ht : t < s.n) (hb : guardIs ops s.env o = some true) (hs : ∀ L ∈ rdGuard ops o, L ∈ rs)
    (hz : zeroT P T = some cs) (hf : boxOf s.box t = none) (htr : 2 * t + 1 ∈ rs) : StepOk P ops s o rs (.new t T (cs.map atOf)) :=
  step_on hb hs fun out w0 s' ρ a w hg hr K Q hK => by
    unfold zeroT at hz
    cases hi : P.info? T with
    | none => rw [hi] at hz; cases hz
    | some i =>
      rw [hi] at hz
      simp only [Option.bind_some] at hz
      cases hzz : i.zero with
      | none => rw [hzz] at hz; cases hz
      | some z =>
        rw [hzz] at hz
        simp only [] at hz
        cases hall : z.cells.toList.all Value.oneCell' with
        | false => rw [hall] at hz; cases hz
        | true =>
          rw [hall] at hz
          have hcs : z.cells.toList = cs := Option.some.inj hz
          have h3 : ∀ bad : Nat → Prop, SeesL w bad cs (cs.map atOf) := fun bad => ⟨by simp, fun i v x h1 h2 => by
            rw [List.getElem?_map, h1] at h2
            cases h2
            exact atOf_sees w bad (List.all_eq_true.1 hall v (by rw [hcs]; exact List.mem_of_getElem? h1))⟩
          have := hK _ _ (hr.alloc (T := T) (t := t) (by rw [hg.n]; exact ht) ((hg.box t htr).trans hf) (h3 _))
          have hca : z.cells = cs.toArray := by rw [← hcs]
          have hrun : (execOp a.eval o).run P w = .ok (.value (.pointer (some ⟨w.heap.size, 0, none⟩))) (w.alloc (.cells cs.toArray T (0, 0))) := by
            unfold execOp
            simp [hop, Instr.alloc, zeroValue, typeInfo, hi, hzz, newVar, newRow, hca]
          unfold Oper.wp
          rw [hrun, Oper.upon_value, hd]
          exact this
theorem SeesL.splice {w : World} {bad : Nat → Prop} {cs vs : List Value} {xs ys : List At} (h : SeesL w bad cs xs) (hv : SeesL w bad vs ys) (i : Nat) (hi : i ≤ cs.length) : SeesL w bad (cs.take i ++ vs ++ cs.drop (i + vs.length)) (xs.take i ++ ys ++ xs.drop (i + ys.length)) := by
  have h1 := h.len
  have h2 := hv.len
  refine ⟨by simp [h1, h2], fun j u x g1 g2 => ?_⟩
  rcases Nat.lt_or_ge j i with hlt | hge
  · rw [List.append_assoc, List.getElem?_append_left (by simp; omega), List.getElem?_take, if_pos hlt] at g1 g2
    exact h.at_ j u x g1 g2
  · rcases Nat.lt_or_ge j (i + vs.length) with hlt | hge2
    · rw [List.append_assoc, List.getElem?_append_right (by simp; omega), List.getElem?_append_left (by simp; omega)] at g1 g2
      simp only [List.length_take] at g1 g2
      rw [Nat.min_eq_left (by omega)] at g1 g2
      exact hv.at_ _ u x g1 g2
    · rw [List.getElem?_append_right (by simp; omega)] at g1 g2
      simp only [List.length_append, List.length_take, List.getElem?_drop] at g1 g2
      rw [Nat.min_eq_left (by omega)] at g1 g2
      exact h.at_ j u x (by rw [← g1]; congr 1; omega) (by rw [← g2]; congr 1; omega)
theorem frozen_box {w : World} {g j : Nat} {cs : Array Value} {T : TypeId} (h : w.heap[g]? = some (.cells cs T (0, 0))) : w.frozen? ⟨g, j, none⟩ = false := by
  unfold World.frozen?
  simp [h]
theorem step_store {k off : Nat} {rs : List Nat} {x y : Operand} {T T0 : TypeId} {xs : List At} {e : El} (hop : o.op = .store T x y) (hd : o.dst = none) (hb : guardIs ops s.env o = some true) (hs : ∀ L ∈ rdGuard ops o, L ∈ rs) (hx : ∀ L ∈ rdOp x, L ∈ rs) (hy : ∀ L ∈ rdOp y, L ∈ rs)
    (hden : denOf s.env x = .ptr k off) (hk : boxOf s.box k = some (T0, xs)) (hro : k < 1000) (hkr : 2 * k + 1 ∈ rs) (he : denOf s.env y = .rs (.el e)) (hn : sizeT P T = some (flat e).length) (hle : off + (flat e).length ≤ xs.length) : StepOk P ops s o rs (.box k T0 (xs.take off ++ flat e ++ xs.drop (off + (flat e).length))) :=
  step_on hb hs fun out w0 s' ρ a w hg hr K Q hK => by
    have h1 := eval_sees hg hr x hx
    have h2 := eval_sees hg hr y hy
    rw [hden] at h1
    rw [he] at h2
    obtain ⟨vs, h3, h4, h5⟩ := flat_sees h2
    have hk' := (hg.box k hkr).trans hk
    obtain ⟨_, cs, h6, h7⟩ := hr.boxes k T0 xs hk'
    have hl1 := h4.len
    have hl2 := h7.len
    obtain ⟨cur', h8, h9, h10⟩ := setCells_row vs off w cs.toArray h6 (by simp; omega)
    obtain ⟨g1, g2, g3, g4⟩ := setCells_same (ρ k) vs off w
    have hcur : cur' = (cs.take off ++ vs ++ cs.drop (off + vs.length)).toArray := by
      apply Array.toList_inj.1
      rw [h10]
    have hrel := hr.turn (w' := w.setCells (ρ k) off vs) (cs' := cs.take off ++ vs ++ cs.drop (off + vs.length)) (xs' := xs.take off ++ flat e ++ xs.drop (off + (flat e).length)) hk' hro (by rw [← hcur]; exact h8) (fun b hb => setCells_far vs off b hb) (Nat.le_of_eq g4.symm) g1 g2 g3 (h7.splice h4 off (by omega))
    have hst := run_storeCells_cells (P := P) (ρ k) off vs 0 w (fun j hj => by
      rw [Nat.add_zero, cell_of_box h6, List.getElem?_eq_getElem (by omega)]; rfl) (fun j hj => frozen_box h6) h5
    rw [Nat.add_zero] at hst
    have hrun : (execOp a.eval o).run P w = .ok .skip (w.setCells (ρ k) off vs) := by
      unfold execOp
      simp only [hop]
      rw [show a.eval x = _ from h1]
      unfold sizeT at hn
      cases hi : P.info? T with
      | none => rw [hi] at hn; cases hn
      | some i =>
        rw [hi] at hn
        have hsz : i.size = vs.length := by
          have := Option.some.inj hn
          rw [hl1]
          exact this
        simp [Instr.storeAt, Instr.sureAddr, storeVar, sizeOf, typeInfo, hi, h3, hsz, hst]
    unfold Oper.wp
    rw [hrun]
    show K (a.put o.dst undef) _
    rw [hd]
    exact hK _ _ hrel
/-! ### Built -/
def fillA (place : Nat → Option (Nat × Nat)) (xs : List At) : List (Nat × List At) → Option (List At)
  | [] => some xs
  | (i, ys) :: r => match place i with
    | none => none
    | some (off, n) => bif Nat.beq ys.length n && Nat.ble (off + ys.length) xs.length then fillA place (xs.take off ++ ys ++ xs.drop (off + ys.length)) r else none
theorem foldl_set : ∀ (vs : List Value) (j off : Nat) (cs : Array Value), off + j + vs.length ≤ cs.size → ((vs.zipIdx j).foldl (fun (c : Array Value) (p : Value × Nat) => c.setIfInBounds (off + p.2) p.1) cs).toList = cs.toList.take (off + j) ++ vs ++ cs.toList.drop (off + j + vs.length)
  | [], j, off, cs, h => by simp
  | v :: vs, j, off, cs, h => by
    simp only [List.length_cons] at h
    simp only [List.zipIdx_cons, List.foldl_cons]
    rw [foldl_set vs (j + 1) off _ (by simp; omega), Array.toList_setIfInBounds]
    have ho : off + j < cs.toList.length := by rw [Array.length_toList]; omega
    rw [show off + (j + 1) = off + j + 1 by omega, List.take_set, List.drop_set_of_lt (by omega)]
    simp only [List.length_cons]
    rw [show off + j + 1 + vs.length = off + j + (vs.length + 1) by omega]
    congr 1
    rw [List.take_succ_eq_append_getElem ho, List.set_append_right _ _ (by rw [List.length_take]; omega)]
    have ho' : off + j < cs.size := by omega
    simp [Nat.min_eq_left (Nat.le_of_lt ho')]
theorem fill_sees {w : World} {bad : Nat → Prop} {place : Nat → Option (Nat × Nat)} : ∀ (ps : List (Nat × Value)) (qs : List (Nat × List At)) (cs : List Value) (xs zs : List At), SeesL w bad cs xs → ps.length = qs.length →
    (∀ (i : Nat) (p : Nat × Value) (q : Nat × List At), ps[i]? = some p → qs[i]? = some q → p.1 = q.1 ∧ ∃ vs : List Value, p.2.cells = vs.toArray ∧ SeesL w bad vs q.2) → fillA place xs qs = some zs → ∃ vs : List Value, Instr.fill place cs.toArray ps = some vs.toArray ∧ SeesL w bad vs zs
  | [], [], cs, xs, zs, h, _, _, hf => by cases hf; exact ⟨cs, rfl, h⟩
  | [], _ :: _, _, _, _, _, hl, _, _ => by cases hl
  | _ :: _, [], _, _, _, _, hl, _, _ => by cases hl
  | (i, v) :: ps, (j, ys) :: qs, cs, xs, zs, h, hl, hp, hf => by
    obtain ⟨rfl, vs, hv, hs⟩ := hp 0 (i, v) (j, ys) rfl rfl
    simp only at hv hs
    unfold fillA at hf
    cases hpl : place i with
    | none => simp [hpl] at hf
    | some on =>
      obtain ⟨off, n⟩ := on
      simp only [hpl] at hf
      cases hc : (Nat.beq ys.length n && Nat.ble (off + ys.length) xs.length) with
      | false => rw [hc] at hf; cases hf
      | true =>
        rw [hc] at hf
        simp only [cond_true] at hf
        rw [Bool.and_eq_true] at hc
        have h1 : ys.length = n := Nat.eq_of_beq_eq_true hc.1
        have h2 : off + ys.length ≤ xs.length := Nat.le_of_ble_eq_true hc.2
        have h3 := hs.len
        have h4 := h.len
        obtain ⟨us, g1, g2⟩ := fill_sees ps qs _ _ zs (h.splice hs off (by omega)) (by simpa using hl) (fun i p q a b => hp (i + 1) p q (by simpa using a) (by simpa using b)) hf
        refine ⟨us, ?_, g2⟩
        have hcond : ¬ (v.cells.size ≠ n ∨ off + v.cells.size > cs.toArray.size) := by rw [hv]; simp; omega
        simp only [Instr.fill, hpl, Bool.or_eq_true, decide_eq_true_eq]
        rw [if_neg hcond, ← g1]
        congr 1
        apply Array.toList_inj.1
        rw [hv]
        have := foldl_set vs 0 off cs.toArray (by simp; omega)
        simp only [Nat.add_zero] at this
        rw [← this]
        simp [← Array.foldl_toList]
def placesT (P : Program) (T : TypeId) : Option (List (Nat × Nat)) := match P.underlying T with
  | some (.struct fs) => fs.toList.mapM (fun f => (P.info? f.type).map fun i => (f.offset, i.size))
  | _ => none
def partsOf (env : List (Nat × Den)) : List (Nat × Operand) → Option (List (Nat × List At))
  | [] => some []
  | (i, x) :: r => match denOf env x with
    | .rs (.el e) => (partsOf env r).map ((i, flat e) :: ·)
    | _ => none
def rdParts (ps : List (Nat × Operand)) : List Nat := ps.flatMap fun p => rdOp p.2
def buildA (P : Program) (env : List (Nat × Den)) (T : TypeId) (parts : List (Nat × Operand)) : Option (List At) := match zeroT P T, placesT P T, partsOf env parts with
  | some z, some pl, some qs => fillA (fun i => pl[i]?) (z.map atOf) qs
  | _, _, _ => none
theorem zero_sees {T : TypeId} {cs : List Value} (hz : zeroT P T = some cs) (w : World) (bad : Nat → Prop) : SeesL w bad cs (cs.map atOf) ∧ ∃ i z, P.info? T = some i ∧ i.zero = some z ∧ z.cells = cs.toArray := by
  unfold zeroT at hz
  cases hi : P.info? T with
  | none => rw [hi] at hz; cases hz
  | some i =>
    rw [hi] at hz
    simp only [Option.bind_some] at hz
    cases hzz : i.zero with
    | none => rw [hzz] at hz; cases hz
    | some z =>
      rw [hzz] at hz
      simp only [] at hz
      cases hall : z.cells.toList.all Value.oneCell' with
      | false => rw [hall] at hz; cases hz
      | true =>
        rw [hall] at hz
        have hcs : z.cells.toList = cs := Option.some.inj hz
        refine ⟨⟨by simp, fun i v x h1 h2 => ?_⟩, i, z, rfl, hzz, by rw [← hcs]⟩
        rw [List.getElem?_map, h1] at h2
        cases h2
        exact atOf_sees w bad (List.all_eq_true.1 hall v (by rw [hcs]; exact List.mem_of_getElem? h1))
theorem step_build {t : Nat} {rs : List Nat} {T : TypeId} {parts : Array (Nat × Operand)} {zs : List At} (hop : o.op = .build T parts) (hd : o.dst = some t) (ht : t < s.n) (hb : guardIs ops s.env o = some true) (hs : ∀ L ∈ rdGuard ops o, L ∈ rs) (hx : ∀ L ∈ rdParts parts.toList, L ∈ rs)
    (hz : buildA P s.env T parts.toList = some zs) : StepOk P ops s o rs (.slot t (.rs (.el (.agg zs)))) :=
  step_yields hd ht hb hs fun out w0 s' ρ a w hg hr => by
    unfold buildA at hz
    split at hz
    · rename_i z pl qs h1 h2 h3
      obtain ⟨g1, i, zz, g2, g3, g4⟩ := zero_sees h1 w (badOf out ρ s')
      have hparts : ∀ (ps : List (Nat × Operand)) (qs : List (Nat × List At)), (∀ L ∈ rdParts ps, L ∈ rs) → partsOf s.env ps = some qs → (ps.map fun p => (p.1, a.eval p.2)).length = qs.length ∧ ∀ (i : Nat) (p : Nat × Value) (q : Nat × List At), (ps.map fun p => (p.1, a.eval p.2))[i]? = some p → qs[i]? = some q → p.1 = q.1 ∧ ∃ vs : List Value, p.2.cells = vs.toArray ∧ SeesL w (badOf out ρ s') vs q.2 := by
        intro ps
        induction ps with
        | nil => intro qs _ h; cases h; exact ⟨rfl, fun i p q h _ => by simp at h⟩
        | cons p ps ih =>
          intro qs hrd h
          obtain ⟨pi, px⟩ := p
          unfold partsOf at h
          split at h
          · rename_i e he
            rw [Option.map_eq_some_iff] at h
            obtain ⟨qs', hq, rfl⟩ := h
            obtain ⟨k1, k2⟩ := ih qs' (fun L hL => hrd L (by unfold rdParts; rw [List.flatMap_cons]; exact List.mem_append_right _ hL)) hq
            refine ⟨by simp at k1 ⊢; exact k1, fun i p q a1 a2 => ?_⟩
            cases i with
            | zero =>
              simp only [List.map_cons, List.getElem?_cons_zero, Option.some.injEq] at a1 a2
              subst a1
              subst a2
              have hv := eval_sees hg hr px (fun L hL => hrd L (by unfold rdParts; rw [List.flatMap_cons]; exact List.mem_append_left _ hL))
              rw [he] at hv
              obtain ⟨vs, b1, b2, _⟩ := flat_sees hv
              exact ⟨rfl, vs, b1, b2⟩
            | succ i => exact k2 i p q (by simpa using a1) (by simpa using a2)
          · cases h
      obtain ⟨k1, k2⟩ := hparts parts.toList qs hx h3
      obtain ⟨us, f1, f2⟩ := fill_sees _ qs z _ zs g1 k1 k2 hz
      refine ⟨.agg us.toArray, ?_, ⟨us, rfl, f2⟩, fun _ h => by cases h⟩
      have hbuilt : P.built T (parts.map fun (i, x) => (i, a.eval x)).toList = some us.toArray := by
        unfold placesT at h2
        cases hu : P.underlying T with
        | none => rw [hu] at h2; cases h2
        | some d =>
          rw [hu] at h2
          cases d <;> try (cases h2; done)
          simp only at h2
          unfold Program.built
          simp only [g2, hu, g3, h2, g4, Array.toList_map]
          rw [← f1]
          congr 1
          funext j
          simp
      unfold execOp
      simp only [hop, Sem.run_bind, run_build w T _ us.toArray hbuilt]
      rfl
    · cases hz
/-- The length of a row. -/
theorem step_len {t : Nat} {rs : List Nat} {x : Operand} {l : List Int} {T e : TypeId} (hop : o.op = .call { callee := .builtin .len, args := #[x], argTypes := #[T] }) (hd : o.dst = some t) (ht : t < s.n) (hb : guardIs ops s.env o = some true) (hs : ∀ L ∈ rdGuard ops o, L ∈ rs) (hx : ∀ L ∈ rdOp x, L ∈ rs)
    (hden : denOf s.env x = .rs (.el (.one (.row l)))) (hT : P.underlying T = some (.slice e)) : StepOk P ops s o rs (.slot t (.rs (.el (.one (.val (.int .i64 (l.length : Int))))))) :=
  step_yields hd ht hb hs fun out w0 s' ρ a w hg hr => by
    have h1 := eval_sees hg hr x hx
    rw [hden] at h1
    obtain ⟨A, c, h2, _⟩ := h1
    refine ⟨_, ?_, ⟨rfl, rfl⟩, fun _ h => by cases h⟩
    unfold execOp
    simp [hop, resolve, invoke, builtin, Builtin.len_, h2, run_underlying hT, goInt]
/-! ### Calls -/
def CallsV (P : Program) (f : FuncId) (vs : Array Value) (w : World) (R : Value → World → Prop) : Prop :=
  ((callFunc f vs).run P w = .ok (.enter f vs) w ∧ Calls P f vs w fun e w' => ∃ v, e = .returned v ∧ R v w') ∨ ∃ v, (callFunc f vs).run P w = .ok (.value v) w ∧ R v w
/-- What a function tells of what it is handed. -/
def Tells (P : Program) (f : FuncId) (ds : List El) (r : Rs) : Prop := ∀ (out : Nat → Prop) (w : World) (vs : List Value), (∀ b, out b → b < w.heap.size) → vs.length = ds.length → (∀ (i : Nat) (u : Value) (e : El), vs[i]? = some u → ds[i]? = some e → SeesE w out u e) →
  CallsV P f vs.toArray w fun v w' => SeesR w' out v r ∧ Below w.heap.size w w'
def rdOps (xs : List Operand) : List Nat := xs.flatMap rdOp
def elsOf (env : List (Nat × Den)) : List Operand → Option (List El)
  | [] => some []
  | x :: r => match denOf env x with
    | .rs (.el e) => (elsOf env r).map (e :: ·)
    | _ => none
theorem step_call {t : Nat} {rs : List Nat} {f : FuncId} {as : Array Operand} {ts : Array TypeId} {ds : List El} {r : Rs} (hop : o.op = .call { callee := .value (.func f), args := as, argTypes := ts }) (hd : o.dst = some t) (ht : t < s.n) (hb : guardIs ops s.env o = some true) (hs : ∀ L ∈ rdGuard ops o, L ∈ rs) (hx : ∀ L ∈ rdOps as.toList, L ∈ rs)
    (hds : elsOf s.env as.toList = some ds) (hc : Tells P f ds r) : StepOk P ops s o rs (.slot t (.rs r)) :=
  step_on hb hs fun out w0 s' ρ a w hg hr K Q hK => by
    have hargs : ∀ (xs : List Operand) (ds : List El), (∀ L ∈ rdOps xs, L ∈ rs) → elsOf s.env xs = some ds → (xs.map a.eval).length = ds.length ∧ ∀ (i : Nat) (u : Value) (e : El), (xs.map a.eval)[i]? = some u → ds[i]? = some e → SeesE w (badOf out ρ s') u e := by
      intro xs
      induction xs with
      | nil => intro ds _ h; cases h; exact ⟨rfl, fun i u e h _ => by simp at h⟩
      | cons x xs ih =>
        intro ds hrd h
        unfold elsOf at h
        split at h
        · rename_i e he
          rw [Option.map_eq_some_iff] at h
          obtain ⟨ds', hq, rfl⟩ := h
          obtain ⟨k1, k2⟩ := ih ds' (fun L hL => hrd L (by unfold rdOps; rw [List.flatMap_cons]; exact List.mem_append_right _ hL)) hq
          refine ⟨by simp at k1 ⊢; exact k1, fun i u e' a1 a2 => ?_⟩
          cases i with
          | zero =>
            simp only [List.map_cons, List.getElem?_cons_zero, Option.some.injEq] at a1 a2
            subst a1
            subst a2
            have hv := eval_sees hg hr x (fun L hL => hrd L (by unfold rdOps; rw [List.flatMap_cons]; exact List.mem_append_left _ hL))
            rw [he] at hv
            exact hv
          | succ i => exact k2 i u e' (by simpa using a1) (by simpa using a2)
        · cases h
    obtain ⟨k1, k2⟩ := hargs as.toList ds hx hds
    have hrun : ∀ n, (callFunc f (as.map a.eval)).run P w = n → (execOp a.eval o).run P w = n := by
      intro n hn
      unfold execOp
      simp [hop, resolve, Deferred.ofValue, invoke, Act.eval, hn]
    have hK' : ∀ v w', SeesR w' (badOf out ρ s') v r → Below w.heap.size w w' → K (a.put (some t) v) w' := fun v w' h1 h2 => hK _ _ ((hr.mono h2).put (by rw [hg.n]; exact ht) h1 (fun _ h => by cases h))
    have harr : as.map a.eval = (as.toList.map a.eval).toArray := by rw [← Array.toList_map, Array.toArray_toList]
    rcases hc (badOf out ρ s') w (as.toList.map a.eval) (hr.bad_lt) k1 k2 with ⟨h1, h2⟩ | ⟨v, h1, h2, h3⟩
    · unfold Oper.wp
      rw [hrun _ ((congrArg (fun z => (callFunc f z).run P w) harr).trans h1), Oper.upon_enter]
      refine h2.mono fun e w'' hh => ?_
      obtain ⟨v, rfl, h3, h4⟩ := hh
      rw [hd]
      exact hK' v w'' h3 h4
    · unfold Oper.wp
      rw [hrun _ ((congrArg (fun z => (callFunc f z).run P w) harr).trans h1), Oper.upon_value, hd]
      exact hK' v w h2 h3
end Go.Proofs.Ytcdkopidgibijaa.Lin
