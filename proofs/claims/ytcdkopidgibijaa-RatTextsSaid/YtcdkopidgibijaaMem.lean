/- Rows of 32 bits each in a loop over an iterator: what they hold is kept where blocks turn that are no cells; append inside a fence. -/
import Derived.Test.YtcdkopidgibijaaBack
import Derived.Test.YtcdkopidgibijaaWMore
namespace Go.Proofs.Ytcdkopidgibijaa.Mem
open Go.RowKit Go.Shelf Go.Proofs.YtcdkopidgibijaaW.PrintWords Go.Proofs.YtcdkopidgibijaaW.PrintLast Go.Proofs.YtcdkopidgibijaaW.PrintMore

theorem R_own {β : Type} (e base : Nat) (ok : Nat → Prop) (v : Value) (f : β → List Int) : Own (fun s W => Kd.R (Kd.int .u32) e W base ok v (f s)) := by
  intro s A B row h hg hr
  exact Kd.R_mono (Kd.R_grown (Kd.R_bound h) hg (fun k hk e => by
    obtain ⟨_, _, _, q, _, cells, hc⟩ := hk
    obtain ⟨o, ho, hcells⟩ := hr k e.symm
    rw [hc] at ho
    cases ho
    cases hcells)) (fun k hk => hk.1)

theorem add_block (ad : Addr) (k : Nat) : (ad.add k).block = ad.block := by unfold Addr.add; split <;> rfl
theorem cells_of_cell {W : World} {p : Addr} {u : Value} (h : W.cell? p = some u) : ∃ o : Obj, W.heap[p.block]? = some o ∧ o.isCells = true := by
  unfold World.cell? at h
  split at h
  · rename_i heq
    exact ⟨_, heq, rfl⟩
  · cases h
theorem no_cell {W : World} {p : Addr} {o : Obj} (h : W.heap[p.block]? = some o) (ho : o.isCells = false) : W.cell? p = none := by
  cases hc : W.cell? p with
  | none => rfl
  | some u =>
    obtain ⟨o', h1, h2⟩ := cells_of_cell hc
    rw [h] at h1
    cases h1
    rw [ho] at h2
    cases h2

/-- What a row of numbers leads to is one block of cells. -/
theorem V_tight {e base : Nat} {W : World} {ok : Nat → Prop} {v : Value} {l : List Int} (h : Kd.V (Kd.int .u32) e W base ok v l) :
    Kd.V (Kd.int .u32) e W base (fun k => ok k ∧ ∃ o : Obj, W.heap[k]? = some o ∧ o.isCells = true) v l := by
  obtain ⟨A, c, rfl, hl, hf⟩ := h
  refine ⟨A, c, rfl, hl, fun W' hag => ?_⟩
  have hnow := Kd.F_now hf
  refine ⟨hnow.1, hnow.2.1, fun hn => ?_⟩
  obtain ⟨ad, hA, hc⟩ := hnow.2.2 hn
  obtain ⟨cs, h1, h2, h3⟩ := hc 0 l[0] (List.getElem?_eq_getElem hn)
  have hcs : cs = [Value.int .u32 l[0]] := h2
  have hcell := h3 0 (Value.int .u32 l[0]) (by rw [hcs]; rfl)
  have hblk := cells_of_cell hcell
  rw [add_block] at hblk
  obtain ⟨o, ho, hoc⟩ := hblk
  have hlt : ad.block < W.heap.size := (Array.getElem?_eq_some_iff.1 ho).1
  have hok : ok ad.block := by
    apply Classical.byContradiction
    intro hno
    have hW := hf (W.putObj ad.block (.deferred none)) (fun k hk _ => World.putObj_heap_other (fun e => hno (e ▸ hk)))
    obtain ⟨ad', hA', hc'⟩ := hW.2.2 hn
    have e : ad' = ad := by rw [hA] at hA'; exact (Option.some.inj hA').symm
    subst e
    obtain ⟨cs', g1, g2, g3⟩ := hc' 0 l[0] (List.getElem?_eq_getElem hn)
    have hcs' : cs' = [Value.int .u32 l[0]] := g2
    have := g3 0 (Value.int .u32 l[0]) (by rw [hcs']; rfl)
    have hd : (W.putObj ad'.block (.deferred none)).heap[ad'.block]? = some (.deferred none) := World.putObj_heap_same hlt
    rw [no_cell (o := .deferred none) (by rw [add_block]; exact hd) rfl] at this
    cases this
  refine ⟨ad, hA, fun j p hj => ?_⟩
  obtain ⟨cs2, g1, g2, g3⟩ := hc j p hj
  exact ⟨cs2, g1, g2, fun i u hu => (World.cell?_of_block (w := W) (a := ad.add (j * (Kd.int .u32).sz + i)) (by rw [add_block]; exact hag _ ⟨hok, o, ho, hoc⟩ hlt)).trans (g3 i u hu)⟩

theorem V_own {β : Type} (e base : Nat) (ok : Nat → Prop) (Br : Nat) (t : TypeId) (f : β → List Int) : Own (fun s W => ∃ v, Boxed W Br t v ∧ Kd.V (Kd.int .u32) e W base ok v (f s)) := by
  rintro s A B row ⟨v, hb, h⟩ hg hr
  refine ⟨v, boxed_own Br t (fun _ => v) s A B row hb hg hr, ?_⟩
  exact Kd.V_mono (Kd.V_grown (V_tight h) hg (fun k hk e => by
    obtain ⟨_, o, ho, hc⟩ := hk
    obtain ⟨o', ho', hc'⟩ := hr k e.symm
    rw [ho] at ho'
    cases ho'
    rw [hc] at hc'
    cases hc')) (fun k hk => hk.1)

/-- Where a block turns that is no cells, what is read stays. -/
theorem V_put {e base : Nat} {W : World} {ok : Nat → Prop} {v : Value} {l : List Int} (h : Kd.V (Kd.int .u32) e W base ok v l) {D : Nat} {o : Obj} (hD : W.heap[D]? = some o) (ho : o.isCells = false) (o' : Obj) : Kd.V (Kd.int .u32) e (W.putObj D o') base ok v l :=
  Kd.V_mono (Kd.V_grown (V_tight h) (grownBy_putObj' W D o') (fun k hk e => by
    obtain ⟨_, q, hq, hc⟩ := hk
    cases e
    rw [hD] at hq
    cases hq
    rw [ho] at hc
    cases hc)) (fun k hk => hk.1)

/-- A literal of one number. -/
theorem R_lit1 (W : World) (e : Nat) (u : Int) : Kd.R (Kd.int .u32) e (W.alloc (.cells #[.int .u32 u] e)) W.heap.size (fun k => W.heap.size ≤ k) (.slice (some ⟨W.heap.size, 0, none⟩) 1 1) [u] := by
  refine Kd.R_of_own (enc := Value.int .u32) (h1 := fun _ => rfl) ?_ ?_
  · have := World.ownsRow_lit (base := W.heap.size) (e := e) (size := 1) W #[.int .u32 u] 1 (Nat.le_refl _) (by unfold maxLen; omega) (by simp)
    simpa [encs] using this
  · intro k hk
    have : W.heap.size = k := by simpa [Value.ownBlock] using hk
    omega

theorem cell_set (W : World) {a b i j : Nat} (h : a ≠ b) {v : Value} : (W.setCell ⟨b, j, none⟩ v).cell? ⟨a, i, none⟩ = W.cell? ⟨a, i, none⟩ := World.cell?_of_block (w := W) (a := ⟨a, i, none⟩) (Below.heap_setCell W ⟨b, j, none⟩ v a h)
theorem frozen_set (W : World) {a b i j : Nat} (h : a ≠ b) {v : Value} : (W.setCell ⟨b, j, none⟩ v).frozen? ⟨a, i, none⟩ = W.frozen? ⟨a, i, none⟩ := World.frozen?_of_block (w := W) (a := ⟨a, i, none⟩) (Below.heap_setCell W ⟨b, j, none⟩ v a h)
/-- What a round does to the world, as the loop asks it. -/
structure Turn (n0 Bs : Nat) (W W' : World) : Prop where
  kb : Back.KB n0 Bs W W'
  ko : KeepsOthers W W'
theorem Turn.refl (n0 Bs : Nat) (W : World) : Turn n0 Bs W W := ⟨Back.KB.refl _ _ _, KeepsOthers.refl _⟩
theorem Turn.trans {n0 Bs : Nat} {A B C : World} (h : Turn n0 Bs A B) (k : Turn n0 Bs B C) : Turn n0 Bs A C := ⟨h.kb.trans k.kb, h.ko.trans k.ko⟩
theorem Turn.below {n0 Bs : Nat} {W W' : World} (h : Below W.heap.size W W') (hn : n0 ≤ W.heap.size) (hB : Bs < W.heap.size) : Turn n0 Bs W W' :=
  ⟨⟨h.mono hn, h.block _ hB⟩, KeepsOthers.of_grownBy (grown_of_below h none) (fun _ _ e => by cases e)⟩
theorem Turn.set {n0 Bs : Nat} (W : World) {b : Nat} (j : Nat) (h : n0 ≤ b) (hb : Bs ≠ b) (v : Value) : Turn n0 Bs W (W.setCell ⟨b, j, none⟩ v) :=
  ⟨⟨(Below.refl n0 W).setCell (p := ⟨b, j, none⟩) h v, Below.heap_setCell W ⟨b, j, none⟩ v Bs hb⟩, KeepsOthers.setCell _ _ _⟩
theorem Turn.drew (n0 Bs : Nat) (W : World) : Turn n0 Bs W W.drew := ⟨⟨(Below.refl _ _).drew, rfl⟩, KeepsOthers.drew _⟩
theorem boxed_set {W : World} {B b : Nat} {t : TypeId} {v : Value} (h : Boxed W B t v) (j : Nat) (hne : B ≠ b) (u : Value) : Boxed (W.setCell ⟨b, j, none⟩ u) B t v := (Below.heap_setCell W ⟨b, j, none⟩ u B hne).trans h

variable {F : Fence} {n : Nat} {P : Program} {ops : Array Oper} {rest : List Oper} {o : Oper} {a : Act} {Q : Exit → Act → World → Prop} {W : World}
/-- append of a row that is read, to a row of the call's own, inside a fence. -/
theorem wpListIn_append_rows (base : Nat) (hgd : o.guard = none) (s x : Operand) (t e : TypeId)
    (ho : o.op = .call { callee := .builtin .append, args := #[s, x], argTypes := #[t, t] })
    (ht : P.underlying t = some (.slice e)) (hinfo : (P.info? e).map (fun i => (i.zero, i.size, i.bytes)) = some (some (.int .u32 0), 1, 4))
    (v : Value) (xs ys : List Int) (A : Option Addr) (m c : Nat) (hs : a.eval s = v) (hx : a.eval x = .slice A m c)
    (HO : Kd.R (Kd.int .u32) e W base (fun k => base ≤ k) v xs) (HR : Kd.C (Kd.int .u32) W A m ys) (hbase : base ≤ W.heap.size) (hl : (xs.length + m) * 4 ≤ 140737488355328)
    (h : ∀ v1 w1, Kd.R (Kd.int .u32) e w1 base (fun k => base ≤ k) v1 (xs ++ ys) → W.grownBy w1 v.ownBlock → wpListIn F n P ops Q rest (a.put o.dst v1) w1) :
    wpListIn F n P ops Q (o :: rest) a W := by
  obtain ⟨i0, hi, hzz⟩ := Option.map_eq_some_iff.1 hinfo
  simp only [Prod.mk.injEq] at hzz
  obtain ⟨hz0, hz1, hz2⟩ := hzz
  have hm : ys.length = m := HR.1
  have hown := Kd.own_of_R (enc := Value.int .u32) (h1 := fun _ => rfl) HO
  rcases A with _ | ad
  · have h0 : m = 0 := by
      rcases Nat.eq_zero_or_pos m with h0 | h0
      · exact h0
      · obtain ⟨ad, e, _⟩ := HR.2.2 h0
        cases e
    subst h0
    obtain rfl : ys = [] := List.eq_nil_of_length_eq_zero hm
    have hrun : (Builtin.append_ #[t, t] o.type #[v, .slice none 0 c]).run P W = .ok v W := by
      rcases hown.2 with ⟨rfl, hn⟩ | ⟨g, cap, cur, rfl, _, _, hnc, _⟩
      · simp [Builtin.append_, run_underlying ht, sizeOf, typeInfo, hi, Builtin.lenOf, Builtin.firstCells]
      · simp [Builtin.append_, run_underlying ht, sizeOf, typeInfo, hi, Builtin.lenOf, Builtin.firstCells, hnc, storeCells]
    refine wpListIn_plain hgd fun K hK' => ?_
    unfold Oper.wpIn
    refine ⟨?_, ?_⟩
    · simp [Oper.about, ho, resolve, Target.leads, Sem.run_pure]
    · rw [Oper.semAt_plain F _ _ (by rw [ho]; intro c hc'; cases hc')]
      simp [execOp, ho, resolve, invoke, builtin, hs, hx, hrun, Result.andThen]
      exact hK' _ _ (h v W (by rw [List.append_nil]; exact HO) (World.grownBy.refl W _))
  · have hnews : ∀ j u, (encs (Value.int .u32) ys)[j]? = some u → W.cell? (ad.add j) = some u := by
      intro j u hu
      have hj : j < ys.length := by
        have := (List.getElem?_eq_some_iff.1 hu).1
        simpa [encs] using this
      obtain ⟨ad', hA, hc⟩ := HR.2.2 (by omega)
      cases hA
      obtain ⟨cs, h1, h2, h3⟩ := hc j ys[j] (List.getElem?_eq_getElem hj)
      have hcs : cs = [Value.int .u32 ys[j]] := h2
      have hu' : u = Value.int .u32 ys[j] := by simpa [encs, List.getElem?_eq_getElem hj] using hu.symm
      have := h3 0 u (by rw [hcs, hu']; rfl)
      rw [show j * (Kd.int .u32).sz + 0 = j from Nat.mul_one j] at this
      exact this
    refine wpListIn_append_own W hgd s x t ho base e i0 (.int .u32 0) 1 4 ht hi hz0 hz1 hz2 rfl (by decide) v xs.length (encs (Value.int .u32) xs) hs hown ad m c (encs (Value.int .u32) ys) hx (by simp [encs, hm]) hnews ?_ (by unfold maxLen; omega) hl hbase ?_
    · intro u hu
      simp only [encs, List.mem_map] at hu
      obtain ⟨q, _, rfl⟩ := hu
      rfl
    · intro v1 w1 h1 h2 _
      refine h v1 w1 (Kd.R_of_own (enc := Value.int .u32) (h1 := fun _ => rfl) ?_ (fun k hk => own_base h1 k hk)) h2
      rw [List.length_append, hm]
      simpa [encs] using h1

/-! ### A region that draws its order, in a round of a range over a function: where nothing is put off, and nothing panics, each order does there what it does outside. -/
def noDefer (ops : Array Oper) : Bool := ops.all fun o => match o.op with
  | .defer _ => false
  | _ => true
theorem noDefer_spec {ops : Array Oper} (h : noDefer ops = true) {i : Nat} {o : Oper} (ho : ops[i]? = some o) (c : Call) : o.op ≠ .defer c := by
  unfold noDefer at h
  rw [Array.all_eq_true] at h
  obtain ⟨hi, e⟩ := Array.getElem?_eq_some_iff.1 ho
  have := h i hi
  rw [e] at this
  intro hc
  rw [hc] at this
  cases this

theorem rowsIn_round {l n : Nat} {P : Program} {row : String} {args : Array Value} {w : World} {R : Value → World → Prop} (h : Rows P row args w R) : RowsIn (Fence.wide.inRound l) n P row args w R := fun c cs _ =>
  let ⟨v, w', r, s⟩ := h c cs
  ⟨v, w', r, stepsIn_wide.2 s⟩
theorem wpOpIn_of {l n : Nat} {P : Program} {ops : Array Oper} {Mid : Act → World → Prop} {i : Nat} {K : Act → World → Prop} {a : Act} {w : World} (hd : noDefer ops = true) (h : wpOp P ops (Back.only Mid) i K a w) : wpOpIn (Fence.wide.inRound l) n P ops (Back.only Mid) i K a w := by
  unfold wpOp at h
  unfold wpOpIn
  cases ho : ops[i]? with
  | none => simpa [ho] using h
  | some o =>
    simp only [ho] at h ⊢
    by_cases hw : Region.wanted o (yielded ops a.tmps) = true
    · simp only [hw, if_true] at h ⊢
      rcases h with h | ⟨_, a', w', hl⟩
      · refine ⟨fun _ _ => trivial, ?_⟩
        rw [Oper.semAt_eq _ _ _ (noDefer_spec hd ho)]
        unfold Oper.wp at h
        generalize (execOp a.eval o).run P w = r at h ⊢
        cases r with
        | ok x w' =>
          cases x <;> simp only [Oper.upon] at h <;> simp only [Oper.uponIn] <;>
            first
              | exact h
              | exact ⟨fun e => by simp [Fence.inRound, Fence.wide] at e, CallsIn.inRound l (callsIn_wide.2 h)⟩
              | exact ⟨fun e => by simp [Fence.inRound, Fence.wide] at e, rowsIn_round h⟩
              | exact h.elim
        | halt x w' => cases x <;> simp only [Oper.upon] at h <;> first | exact h | exact h.elim
      · exact hl.elim
    · simp only [hw] at h ⊢
      exact ⟨fun _ _ => trivial, h⟩
theorem wpAnyIn_of {l n : Nat} {P : Program} {md : Region.Mode} {ops : Array Oper} {Mid : Act → World → Prop} (hd : noDefer ops = true) : ∀ (fuel : Nat) (listed : Array Bool) (a : Act) (w : World), wpAny P md ops (Back.only Mid) fuel listed a w → wpAnyIn (Fence.wide.inRound l) n P md ops (Back.only Mid) fuel listed a w
  | 0, _, _, _, h => h
  | fuel + 1, _, _, _, h => ⟨h.1, fun i hi => wpOpIn_mono (fun a w h => wpAnyIn_of hd fuel _ a w h) (wpOpIn_of hd (h.2 i hi))⟩
/-- The kit's start_, in a round. -/
theorem startR_ {l n N id : Nat} {P : Program} {ops : Array Oper} {Mid : Act → World → Prop} {S : World → Prop} {ds : List Nat} {a : Act} {w : World} (L : Array Bool) (hm : P.follows .mixedOrders = true) (hd : noDefer ops = true) (hn : ops.size = N) (hl : Array.replicate N false = L) (hS : S w.drew)
    (h : S w.drew → wpAnyLast P .any ops (Back.only Mid) S ds N L a w.drew) : (Code.region id ops true).wpIn (Fence.wide.inRound l) n P (Back.only Mid) a w := by
  subst hn
  subst hl
  exact wpIn_region_any hm (wpAnyIn_of hd _ _ _ _ (wpAny_of_last _ _ _ _ (h hS)))

end Go.Proofs.Ytcdkopidgibijaa.Mem
