/- A slice literal of three fractions. -/
import Derived.Test.YtcdkopidgibijaaTy
import Derived.Great.BuildSlice
namespace Go.Proofs.Ytcdkopidgibijaa.Lin
open Go Go.RowKit Go.Proofs.YtcdkopidgibijaaW.PrintWords
variable {P : Program} {ops : Array Oper} {s : St} {o : Oper}
theorem addr_add (g o k : Nat) : (⟨g, o, none⟩ : Addr).add k = ⟨g, o + k, none⟩ := Addr.add_mid g o k
theorem step_bsl {t : Nat} {rs : List Nat} {T e : TypeId} {x0 x1 x2 : Operand} {q0 q1 q2 : Bool × List Int × List Int} (hop : o.op = .buildSlice T 3 #[(0, x0), (1, x1), (2, x2)]) (hd : o.dst = some t) (ht : t < s.n) (hb : guardIs ops s.env o = some true) (hs : ∀ L ∈ rdGuard ops o, L ∈ rs) (hx : ∀ L ∈ rdOps [x0, x1, x2], L ∈ rs)
    (hT : P.underlying T = some (.slice e)) (hz : zeroT P e = some [.bool false, .slice none 0 0, .slice none 0 0]) (hn : sizeT P e = some 3)
    (h0 : denOf s.env x0 = .rs (.el (.agg [.val (.bool q0.1), .row q0.2.1, .row q0.2.2]))) (h1 : denOf s.env x1 = .rs (.el (.agg [.val (.bool q1.1), .row q1.2.1, .row q1.2.2]))) (h2 : denOf s.env x2 = .rs (.el (.agg [.val (.bool q2.1), .row q2.2.1, .row q2.2.2]))) : StepOk P ops s o rs (.slot t (.rs (.el (.one (.rats [q0, q1, q2]))))) :=
  step_on hb hs fun out w0 s' ρ a w hg hr K Q hK => by
    have g0 := eval_sees hg hr x0 (fun L hL => hx L (by unfold rdOps; simp [hL]))
    have g1 := eval_sees hg hr x1 (fun L hL => hx L (by unfold rdOps; simp [hL]))
    have g2 := eval_sees hg hr x2 (fun L hL => hx L (by unfold rdOps; simp [hL]))
    rw [h0] at g0
    rw [h1] at g1
    rw [h2] at g2
    have three : ∀ {v : Value} {q : Bool × List Int × List Int}, SeesE w (badOf out ρ s') v (.agg [.val (.bool q.1), .row q.2.1, .row q.2.2]) → ∃ u1 u2, v = .agg #[.bool q.1, u1, u2] ∧ SeesRow w (badOf out ρ s') u1 q.2.1 ∧ SeesRow w (badOf out ρ s') u2 q.2.2 := by
      rintro v q ⟨cs, rfl, hl⟩
      match cs, hl with
      | [c0, c1, c2], hl =>
        obtain ⟨a0, hl⟩ := hl.tail
        obtain ⟨a1, hl⟩ := hl.tail
        obtain ⟨a2, _⟩ := hl.tail
        exact ⟨c1, c2, by rw [a0.1], a1, a2⟩
      | [], hl => cases hl.len
      | [_], hl => cases hl.len
      | [_, _], hl => cases hl.len
      | _ :: _ :: _ :: _ :: _, hl => have := hl.len; simp at this
    obtain ⟨u1, u2, e0, r1, r2⟩ := three g0
    obtain ⟨v1, v2, e1, r3, r4⟩ := three g1
    obtain ⟨z1, z2, e2, r5, r6⟩ := three g2
    obtain ⟨_, i, z, hi, hzz, hzc⟩ := zero_sees hz w (badOf out ρ s')
    have hsz : i.size = 3 := by
      unfold sizeT at hn
      rw [hi] at hn
      exact Option.some.inj hn
    let cells : Array Value := #[.bool q0.1, u1, u2, .bool q1.1, v1, v2, .bool q2.1, z1, z2]
    have hrun : (execOp a.eval o).run P w = .ok (.value (.slice (some ⟨w.heap.size, 0, none⟩) 3 3)) (w.alloc (.cells cells e)) := by
      have := run_buildSlice (P := P) w T e 3 #[(0, a.eval x0), (1, a.eval x1), (2, a.eval x2)] cells i z hT hi hzz (by rw [hsz]; decide) (by rw [hsz]; decide) (by
        rw [hsz, hzc, e0, e1, e2]
        kernel_rfl)
      unfold execOp
      simp only [hop]
      rw [show (#[(0, x0), (1, x1), (2, x2)] : Array (Nat × Operand)).map (fun (i, x) => (i, a.eval x)) = #[(0, a.eval x0), (1, a.eval x1), (2, a.eval x2)] from by simp, Sem.run_bind, this]
      rfl
    have hbelow : Below w.heap.size w (w.alloc (.cells cells e)) := (Below.refl _ _).alloc (Nat.le_refl _) _
    have hm : Moves w (badOf out ρ s') (w.alloc (.cells cells e)) (badOf out ρ s') := Moves.below hbelow
    have hblk : (w.alloc (.cells cells e)).heap[w.heap.size]? = some (.cells cells e (0, 0)) := by
      show (w.heap.push _)[w.heap.size]? = _
      simp
    have hgood : ¬ badOf out ρ s' w.heap.size := fun h => Nat.lt_irrefl _ (hr.bad_lt _ h)
    have hcell : ∀ j, (w.alloc (.cells cells e)).cell? ⟨w.heap.size, j, none⟩ = cells[j]? := fun j => by
      unfold World.cell?
      rw [hblk]
      rfl
    unfold Oper.wp
    rw [hrun, Oper.upon_value, hd]
    refine hK _ _ ((hr.mono hbelow).put (by rw [hg.n]; exact ht) ⟨some ⟨w.heap.size, 0, none⟩, 3, rfl, Nat.le_refl 3, fun j q hj => ⟨_, rfl, ?_⟩⟩ (fun _ h => by cases h))
    rw [addr_add]
    match j, hj with
    | 0, hj => cases hj; exact ⟨hgood, (hcell 0).trans rfl, ⟨u1, (by rw [addr_add]; exact hcell 1), r1.move hm⟩, ⟨u2, (by rw [addr_add]; exact hcell 2), r2.move hm⟩⟩
    | 1, hj => cases hj; exact ⟨hgood, (hcell 3).trans rfl, ⟨v1, (by rw [addr_add]; exact hcell 4), r3.move hm⟩, ⟨v2, (by rw [addr_add]; exact hcell 5), r4.move hm⟩⟩
    | 2, hj => cases hj; exact ⟨hgood, (hcell 6).trans rfl, ⟨z1, (by rw [addr_add]; exact hcell 7), r5.move hm⟩, ⟨z2, (by rw [addr_add]; exact hcell 8), r6.move hm⟩⟩
theorem Run.bsl {s0 : St} {G : St → List Tr → Prop} {rest : List Oper} {i : Nat} {l : List Tr} {n : Nat} {env : List (Nat × Den)} {box : List (Nat × TypeId × List At)} {g : List Nat} {t T e : Nat} {x0 x1 x2 : Operand} {m0 m1 m2 : Bool} {l0 k0 l1 k1 l2 k2 : List Int}
    (h : Run P ops s0 G rest (i + 1) (⟨i, g ++ rdOps [x0, x1, x2], .slot t (.rs (.el (.one (.rats [(m0, l0, k0), (m1, l1, k1), (m2, l2, k2)]))))⟩ :: l) n ((t, .rs (.el (.one (.rats [(m0, l0, k0), (m1, l1, k1), (m2, l2, k2)])))) :: env) box) (hop : o.op = .buildSlice T 3 #[(0, x0), (1, x1), (2, x2)] := by rfl) (hb : GOn ops env o g := by first | exact GOn.none rfl | exact GOn.some rfl rfl rfl) (hd : o.dst = some t := by rfl)
    (iT : SlcT P T e := by infer_instance) (iz : ZeroT P e [.bool false, .slice none 0 0, .slice none 0 0] [.val (.bool false), .row [], .row []] := by infer_instance) (ir : RowT P e 3 := by infer_instance)
    (h0 : denOf env x0 = .rs (.el (.agg [.val (.bool m0), .row l0, .row k0])) := by rfl) (h1 : denOf env x1 = .rs (.el (.agg [.val (.bool m1), .row l1, .row k1])) := by rfl) (h2 : denOf env x2 = .rs (.el (.agg [.val (.bool m2), .row l2, .row k2])) := by rfl) (ht : Nat.blt t n = true := by rfl) : Run P ops s0 G (o :: rest) i l n env box :=
  Run.cons (rs := g ++ rdOps [x0, x1, x2]) (step_bsl (s := ⟨n, env, box⟩) (q0 := (m0, l0, k0)) (q1 := (m1, l1, k1)) (q2 := (m2, l2, k2)) hop hd (blt ht) hb.on (fun _ h => List.mem_append_left _ (hb.rd ▸ h)) (fun _ h => List.mem_append_right _ h) iT.h iz.h ir.n h0 h1 h2) h rfl

section
variable {s0 : St} {G : St → List Tr → Prop} {rest : List Oper} {i : Nat} {l : List Tr} {n : Nat} {env : List (Nat × Den)} {box : List (Nat × TypeId × List At)} {g : List Nat} {t : Nat} {x y : Operand} {T : TypeId}
theorem Run.lenq {d : List (Bool × List Int × List Int)} {eT : Nat} (h : Run P ops s0 G rest (i + 1) (⟨i, g ++ rdOp x, .slot t (.rs (.el (.one (.val (.int .i64 (d.length : Int))))))⟩ :: l) n ((t, .rs (.el (.one (.val (.int .i64 (d.length : Int)))))) :: env) box) (hop : o.op = .call { callee := .builtin .len, args := #[x], argTypes := #[T] } := by rfl) (ic : SlcT P T eT := by infer_instance) (hb : GOn ops env o g := by first | exact GOn.none rfl | exact GOn.some rfl rfl rfl) (hd : o.dst = some t := by rfl) (hx : denOf env x = .rs (.el (.one (.rats d))) := by rfl) (ht : Nat.blt t n = true := by rfl) : Run P ops s0 G (o :: rest) i l n env box :=
  Run.cons (rs := g ++ rdOp x) (step_yields (s := ⟨n, env, box⟩) hd (blt ht) hb.on (fun _ h => List.mem_append_left _ (hb.rd ▸ h)) fun out w0 s' ρ a w hg hr => by
    have h1 := eval_sees hg hr x (fun _ h => List.mem_append_right _ h)
    rw [show denOf (⟨n, env, box⟩ : St).env x = _ from hx] at h1
    obtain ⟨A, c, h2, _⟩ := h1
    refine ⟨_, ?_, ⟨rfl, rfl⟩, fun _ h => by cases h⟩
    unfold execOp
    simp [hop, resolve, invoke, builtin, Builtin.len_, h2, run_underlying ic.h, goInt]) h rfl
theorem Run.idxq {d : List (Bool × List Int × List Int)} {eT : Nat} {k : IntKind} {j : Int} {q : Bool × List Int × List Int} (h : Run P ops s0 G rest (i + 1) (⟨i, g ++ (rdOp x ++ rdOp y), .slot t (.rs (.el (.one (.prat q))))⟩ :: l) n ((t, .rs (.el (.one (.prat q)))) :: env) box) (hop : o.op = .indexAddr T x y := by rfl) (ic : SlcT P T eT := by infer_instance) (ir : RowT P eT 3 := by infer_instance) (hb : GOn ops env o g := by first | exact GOn.none rfl | exact GOn.some rfl rfl rfl) (hd : o.dst = some t := by rfl)
    (hx : denOf env x = .rs (.el (.one (.rats d))) := by rfl) (hy : valOf (denOf env y) = some (.int k j) := by rfl) (hj : decide (0 ≤ j) = true := by rfl) (hq : d[j.toNat]? = some q := by rfl) (ht : Nat.blt t n = true := by rfl) : Run P ops s0 G (o :: rest) i l n env box :=
  Run.cons (rs := g ++ (rdOp x ++ rdOp y)) (step_yields (s := ⟨n, env, box⟩) hd (blt ht) hb.on (fun _ h => List.mem_append_left _ (hb.rd ▸ h)) fun out w0 s' ρ a w hg hr => by
    have h1 := eval_sees hg hr x (fun _ h => List.mem_append_right _ (List.mem_append_left _ h))
    rw [show denOf (⟨n, env, box⟩ : St).env x = _ from hx] at h1
    have h2 := valOf_eq (eval_sees hg hr y (fun _ h => List.mem_append_right _ (List.mem_append_right _ h))) hy
    obtain ⟨A, c, h3, _, h4⟩ := h1
    obtain ⟨ad, rfl, h5⟩ := h4 j.toNat q hq
    have h6 : 0 ≤ j := of_decide_eq_true hj
    have h7 : j.toNat < d.length := (List.getElem?_eq_some_iff.1 hq).1
    have h8 : j < (d.length : Int) := by omega
    refine ⟨.pointer (some (ad.add (j.toNat * 3))), ?_, ⟨_, rfl, h5⟩, fun _ h => by cases h⟩
    have hn := ir.n
    unfold sizeT at hn
    cases hi : P.info? eT with
    | none => rw [hi] at hn; cases hn
    | some inf =>
      rw [hi] at hn
      have hsz : inf.size = 3 := Option.some.inj hn
      unfold execOp
      simp [hop, h3, h2, Instr.indexAt, asIntOf, run_underlying ic.h, h6, h8, sizeOf, typeInfo, hi, hsz]) h rfl
theorem Run.ldq {q : Bool × List Int × List Int} (h : Run P ops s0 G rest (i + 1) (⟨i, g ++ rdOp x, .slot t (.rs (.el (.agg [.val (.bool q.1), .row q.2.1, .row q.2.2])))⟩ :: l) n ((t, .rs (.el (.agg [.val (.bool q.1), .row q.2.1, .row q.2.2]))) :: env) box) (hop : o.op = .load T x := by rfl) (ic : RowT P T 3 := by infer_instance) (hb : GOn ops env o g := by first | exact GOn.none rfl | exact GOn.some rfl rfl rfl) (hd : o.dst = some t := by rfl)
    (hx : denOf env x = .rs (.el (.one (.prat q))) := by rfl) (ht : Nat.blt t n = true := by rfl) : Run P ops s0 G (o :: rest) i l n env box :=
  Run.cons (rs := g ++ rdOp x) (step_yields (s := ⟨n, env, box⟩) hd (blt ht) hb.on (fun _ h => List.mem_append_left _ (hb.rd ▸ h)) fun out w0 s' ρ a w hg hr => by
    have h1 := eval_sees hg hr x (fun _ h => List.mem_append_right _ h)
    rw [show denOf (⟨n, env, box⟩ : St).env x = _ from hx] at h1
    obtain ⟨ad, h3, hq⟩ := h1
    obtain ⟨u1, a1, r1⟩ := hq.c1
    obtain ⟨u2, a2, r2⟩ := hq.c2
    have h0 : ad.add 0 = ad := by unfold Addr.add; split <;> simp_all
    have hl : (loadCells ad 3).run P w = .ok #[.bool q.1, u1, u2] w := run_loadCells_list (P := P) w ad [.bool q.1, u1, u2] (fun j v hv => by
      match j, hv with
      | 0, hv => cases hv; rw [h0]; exact hq.c0
      | 1, hv => cases hv; exact a1
      | 2, hv => cases hv; exact a2)
    refine ⟨.agg #[.bool q.1, u1, u2], ?_, ⟨[.bool q.1, u1, u2], rfl, SeesL.cons ⟨rfl, rfl⟩ (SeesL.cons r1 (SeesL.cons r2 SeesL.nil))⟩, fun _ h => by cases h⟩
    obtain ⟨d, hu, hdd⟩ := isRow_some ic.h
    have hagg : (isAgg T).run P w = .ok true w := by
      unfold isAgg
      rw [Sem.run_bind, run_underlying hu w]
      cases d <;> simp_all
    have hn := ic.n
    unfold sizeT at hn
    cases hi : P.info? T with
    | none => rw [hi] at hn; cases hn
    | some inf =>
      rw [hi] at hn
      have hsz : inf.size = 3 := Option.some.inj hn
      unfold execOp
      simp [hop, h3, Instr.loadAt, Instr.sureAddr, loadVar, hagg, sizeOf, typeInfo, hi, hsz, hl]) h rfl
end
end Go.Proofs.Ytcdkopidgibijaa.Lin
