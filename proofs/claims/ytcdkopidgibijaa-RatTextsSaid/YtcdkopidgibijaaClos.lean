/- Closures that read the variables that they captured. -/
import Derived.Test.YtcdkopidgibijaaRun
namespace Go.Proofs.Ytcdkopidgibijaa.Lin
open Go Go.RowKit Go.Proofs.YtcdkopidgibijaaW.PrintWords
variable {P : Program} {ops : Array Oper} {s : St} {o : Oper}
def TellsC (P : Program) (f : FuncId) (bs : List (TypeId × List At)) (r : Rs) : Prop := ∀ (out : Nat → Prop) (w : World) (gs : List Nat), (∀ b, out b → b < w.heap.size) → (∀ g ∈ gs, out g) → gs.Nodup → gs.length = bs.length →
  (∀ (i g : Nat) (T : TypeId) (xs : List At), gs[i]? = some g → bs[i]? = some (T, xs) → ∃ cs : List Value, w.heap[g]? = some (.cells cs.toArray T (0, 0)) ∧ SeesL w out cs xs) →
  CallsV P f (gs.map fun g => Value.pointer (some ⟨g, 0, none⟩)).toArray w fun v w' => SeesR w' out v r ∧ Below w.heap.size w w'
class Tc (P : Program) (f : Nat) (bs : List (TypeId × List At)) (r : outParam Rs) : Prop where t : TellsC P f bs r
def ptrsOf (env : List (Nat × Den)) : List Operand → Option (List Nat)
  | [] => some []
  | x :: r => match denOf env x with
    | .ptr k 0 => (ptrsOf env r).map (k :: ·)
    | _ => none
theorem step_makeFunc {t f : Nat} {rs : List Nat} {xs : Array Operand} {ks : List Nat} (hop : o.op = .makeFunc (.func f) #[] xs) (hd : o.dst = some t) (ht : t < s.n) (hb : guardIs ops s.env o = some true) (hs : ∀ L ∈ rdGuard ops o, L ∈ rs) (hx : ∀ L ∈ rdOps xs.toList, L ∈ rs)
    (hk : ptrsOf s.env xs.toList = some ks) : StepOk P ops s o rs (.slot t (.clo f ks)) :=
  step_yields hd ht hb hs fun out w0 s' ρ a w hg hr => by
    have key : ∀ (l : List Operand) (ks : List Nat), (∀ L ∈ rdOps l, L ∈ rs) → ptrsOf s.env l = some ks → l.map a.eval = ks.map (fun k => Value.pointer (some ⟨ρ k, 0, none⟩)) ∧ ∀ k ∈ ks, (boxOf s'.box k).isSome = true := by
      intro l
      induction l with
      | nil => intro ks _ h; cases h; exact ⟨rfl, fun k h => by cases h⟩
      | cons x l ih =>
        intro ks hrd h
        unfold ptrsOf at h
        split at h
        · rename_i k he
          rw [Option.map_eq_some_iff] at h
          obtain ⟨ks', hq, rfl⟩ := h
          have hxx : ∀ L ∈ rdOp x, L ∈ rs := fun L hL => hrd L (by unfold rdOps; rw [List.flatMap_cons]; exact List.mem_append_left _ hL)
          obtain ⟨k1, k2⟩ := ih ks' (fun L hL => hrd L (by unfold rdOps; rw [List.flatMap_cons]; exact List.mem_append_right _ hL)) hq
          have hv := eval_sees hg hr x hxx
          rw [he] at hv
          refine ⟨by rw [List.map_cons, List.map_cons, k1, show a.eval x = _ from hv], fun j hj => ?_⟩
          rcases List.mem_cons.1 hj with rfl | hj
          · exact ptr_some hg hr hxx (by rw [he]; simp [Den.ks])
          · exact k2 j hj
        · cases h
    obtain ⟨k1, k2⟩ := key xs.toList ks hx hk
    refine ⟨_, ?_, rfl, k2⟩
    unfold execOp
    simp only [hop, Instr.makeFunc]
    rw [← k1]
    simp
    rw [← Array.toList_map, Array.toArray_toList]
theorem step_callC {t : Nat} {rs : List Nat} {f : FuncId} {x : Operand} {ks : List Nat} {bs : List (TypeId × List At)} {r : Rs} (hop : o.op = .call { callee := .value x, args := #[], argTypes := #[] }) (hd : o.dst = some t) (ht : t < s.n) (hb : guardIs ops s.env o = some true) (hs : ∀ L ∈ rdGuard ops o, L ∈ rs) (hx : ∀ L ∈ rdOp x, L ∈ rs) (hkr : ∀ k ∈ ks, 2 * k + 1 ∈ rs)
    (hden : denOf s.env x = .clo f ks) (hnd : ks.Nodup) (hbs : ks.map (boxOf s.box) = bs.map some) (hc : TellsC P f bs r) : StepOk P ops s o rs (.slot t (.rs r)) :=
  step_on hb hs fun out w0 s' ρ a w hg hr K Q hK => by
    have hv := eval_sees hg hr x hx
    rw [hden] at hv
    have hv : a.eval x = .func (.func f) #[] (ks.map fun k => Value.pointer (some ⟨ρ k, 0, none⟩)).toArray := hv
    have hlen : ks.length = bs.length := by have := congrArg List.length hbs; simpa using this
    have hbox : ∀ (i k : Nat), ks[i]? = some k → ∃ b, bs[i]? = some b ∧ boxOf s'.box k = some b := by
      intro i k hi
      have h1 := congrArg (fun l => l[i]?) hbs
      simp only [List.getElem?_map, hi, Option.map_some] at h1
      cases hb2 : bs[i]? with
      | none => rw [hb2] at h1; cases h1
      | some b =>
        rw [hb2] at h1
        exact ⟨b, rfl, (hg.box k (hkr k (List.mem_of_getElem? hi))).trans (Option.some.inj h1)⟩
    have hmem : ∀ k ∈ ks, ∃ b, boxOf s'.box k = some b := fun k hk => by
      obtain ⟨i, hi⟩ := List.getElem?_of_mem hk
      obtain ⟨b, _, h⟩ := hbox i k hi
      exact ⟨b, h⟩
    have hK' : ∀ v w', SeesR w' (badOf out ρ s') v r → Below w.heap.size w w' → K (a.put (some t) v) w' := fun v w' h1 h2 => hK _ _ ((hr.mono h2).put (by rw [hg.n]; exact ht) h1 (fun _ h => by cases h))
    have hrun : ∀ n, (callFunc f (ks.map fun k => Value.pointer (some ⟨ρ k, 0, none⟩)).toArray).run P w = n → (execOp a.eval o).run P w = n := by
      intro n hn
      unfold execOp
      simp [hop, resolve, Deferred.ofValue, invoke, hv, hn]
    have hnd2 : (ks.map ρ).Nodup := by
      refine List.Pairwise.map ρ ?_ (List.Pairwise.and_mem.1 hnd)
      intro k k' h e
      obtain ⟨b, h1⟩ := hmem k h.1
      obtain ⟨b', h2⟩ := hmem k' h.2.1
      exact h.2.2 (hr.inj k k' (by rw [h1]; rfl) (by rw [h2]; rfl) e)
    have := hc (badOf out ρ s') w (ks.map ρ) hr.bad_lt (fun g hgm => by
        obtain ⟨k, hk, rfl⟩ := List.mem_map.1 hgm
        obtain ⟨b, h⟩ := hmem k hk
        exact .inr ⟨k, by rw [h]; rfl, rfl⟩) hnd2 (by simp [hlen]) (fun i g T xs h1 h2 => by
        rw [List.getElem?_map] at h1
        cases hk : ks[i]? with
        | none => rw [hk] at h1; cases h1
        | some k =>
          rw [hk] at h1
          cases h1
          obtain ⟨b, h3, h4⟩ := hbox i k hk
          rw [h2] at h3
          cases h3
          obtain ⟨_, cs, h5, h6⟩ := hr.boxes k T xs h4
          exact ⟨cs, h5, h6⟩)
    rw [List.map_map] at this
    rcases this with ⟨h1, h2⟩ | ⟨v, h1, h2, h3⟩
    · unfold Oper.wp
      rw [hrun _ h1, Oper.upon_enter]
      refine h2.mono fun e w'' hh => ?_
      obtain ⟨v, rfl, h3, h4⟩ := hh
      rw [hd]
      exact hK' v w'' h3 h4
    · unfold Oper.wp
      rw [hrun _ h1, Oper.upon_value, hd]
      exact hK' v w h2 h3
section
variable {s0 : St} {G : St → List Tr → Prop} {rest : List Oper} {i : Nat} {l : List Tr} {n : Nat} {env : List (Nat × Den)} {box : List (Nat × TypeId × List At)} {g : List Nat} {t f : Nat} {x : Operand}
theorem Run.mvC {d : Nat} {ks : List Nat} (h : Run P ops s0 G rest (i + 1) (⟨i, g ++ rdOp x, .slot t (.clo d ks)⟩ :: l) n ((t, .clo d ks) :: env) box) (hop : o.op = .move x ∨ o.op = .assign x := by first | exact .inl rfl | exact .inr rfl) (hb : GOn ops env o g := by first | exact GOn.none rfl | exact GOn.some rfl rfl rfl) (hd : o.dst = some t := by rfl) (hx : denOf env x = .clo d ks := by rfl) (ht : Nat.blt t n = true := by rfl) : Run P ops s0 G (o :: rest) i l n env box :=
  Run.cons (rs := g ++ rdOp x) (by rw [← hx]; exact step_move (s := ⟨n, env, box⟩) hop hd (blt ht) hb.on (fun _ h => List.mem_append_left _ (hb.rd ▸ h)) (fun _ h => List.mem_append_right _ h)) h rfl
theorem Run.mkf {xs : Array Operand} {ks : List Nat} (h : Run P ops s0 G rest (i + 1) (⟨i, g ++ rdOps xs.toList, .slot t (.clo f ks)⟩ :: l) n ((t, .clo f ks) :: env) box) (hop : o.op = .makeFunc (.func f) #[] xs := by rfl) (hb : GOn ops env o g := by first | exact GOn.none rfl | exact GOn.some rfl rfl rfl) (hd : o.dst = some t := by rfl) (hk : ptrsOf env xs.toList = some ks := by rfl) (ht : Nat.blt t n = true := by rfl) : Run P ops s0 G (o :: rest) i l n env box :=
  Run.cons (rs := g ++ rdOps xs.toList) (step_makeFunc (s := ⟨n, env, box⟩) hop hd (blt ht) hb.on (fun _ h => List.mem_append_left _ (hb.rd ▸ h)) (fun _ h => List.mem_append_right _ h) hk) h rfl
theorem Run.callC {k1 k2 k3 : Nat} {b1 b2 b3 : TypeId × List At} {r : Rs} (h : Run P ops s0 G rest (i + 1) (⟨i, g ++ (rdOp x ++ [2 * k1 + 1, 2 * k2 + 1, 2 * k3 + 1]), .slot t (.rs r)⟩ :: l) n ((t, .rs r) :: env) box) (hop : o.op = .call { callee := .value x, args := #[], argTypes := #[] } := by rfl) (hb : GOn ops env o g := by first | exact GOn.none rfl | exact GOn.some rfl rfl rfl) (hd : o.dst = some t := by rfl)
    (hx : denOf env x = .clo f [k1, k2, k3] := by rfl) (h1 : boxOf box k1 = some b1 := by rfl) (h2 : boxOf box k2 = some b2 := by rfl) (h3 : boxOf box k3 = some b3 := by rfl) (hnd : [k1, k2, k3].Nodup := by decide) (hc : Tc P f [b1, b2, b3] r := by infer_instance) (ht : Nat.blt t n = true := by rfl) : Run P ops s0 G (o :: rest) i l n env box :=
  Run.cons (rs := g ++ (rdOp x ++ [2 * k1 + 1, 2 * k2 + 1, 2 * k3 + 1])) (step_callC (s := ⟨n, env, box⟩) hop hd (blt ht) hb.on (fun _ h => List.mem_append_left _ (hb.rd ▸ h)) (fun _ h => List.mem_append_right _ (List.mem_append_left _ h)) (fun k hk => by
    refine List.mem_append_right _ (List.mem_append_right _ ?_)
    simp only [List.mem_cons, List.not_mem_nil, or_false] at hk ⊢
    omega) hx hnd (by simp [h1, h2, h3]) hc.t) h rfl
end
theorem getD_args (vs : List Value) (m t : Nat) (ht : t < vs.length) : (vs.toArray ++ Array.replicate m undef).getD t undef = vs[t] := by simp [Array.getElem?_append, ht]
/-- A closure over three variables, out of its body. -/
theorem TellsC.body3 {f : FuncId} {fn : Func} {c : Code} {T1 T2 T3 : TypeId} {x1 x2 x3 : List At} {r : Rs} (hf : P.funcs[f]? = some fn) (hc : fn.body = some c) (hlen : Nat.ble 3 fn.ntmps = true)
    (h : AWp P c ⟨fn.ntmps, [(0, .ptr 1000 0), (1, .ptr 1001 0), (2, .ptr 1002 0)], [(1000, T1, x1), (1001, T2, x2), (1002, T3, x3)]⟩ (FinK P fn r)) (hname : (fn.name == "runtime.NumGoroutine") = false) : TellsC P f [(T1, x1), (T2, x2), (T3, x3)] r := by
  intro out w gs hout hgs hnd hl hh
  unfold AWp at h
  match gs, hl, hgs, hnd, hh with
  | [g1, g2, g3], _, hgs, hnd, hh =>
    have hn := Nat.le_of_ble_eq_true hlen
    refine .inl ⟨?_, ?_⟩
    · have h1 : fn.name ≠ "runtime.NumGoroutine" := by simpa using hname
      simp [callFunc, hf, h1, hc]
    · let ρ : Nat → Nat := fun k => if k = 1000 then g1 else if k = 1001 then g2 else g3
      refine calls_of_wp hf hc (wp_mono (h out ⟨w, [], ρ⟩ _ w ⟨ρ, ?_⟩) ?_)
      · have hbx : ∀ k b, boxOf [(1000, T1, x1), (1001, T2, x2), (1002, T3, x3)] k = some b → (k = 1000 ∧ b = (T1, x1)) ∨ (k = 1001 ∧ b = (T2, x2)) ∨ (k = 1002 ∧ b = (T3, x3)) := by
          intro k b hk
          by_cases e1 : 1000 = k
          · subst e1; rw [boxOf_same] at hk; cases hk; exact .inl ⟨rfl, rfl⟩
          · rw [boxOf_other e1] at hk
            by_cases e2 : 1001 = k
            · subst e2; rw [boxOf_same] at hk; cases hk; exact .inr (.inl ⟨rfl, rfl⟩)
            · rw [boxOf_other e2] at hk
              by_cases e3 : 1002 = k
              · subst e3; rw [boxOf_same] at hk; cases hk; exact .inr (.inr ⟨rfl, rfl⟩)
              · rw [boxOf_other e3] at hk; cases hk
        have hbad : ∀ b, badOf out ρ ⟨fn.ntmps, [(0, .ptr 1000 0), (1, .ptr 1001 0), (2, .ptr 1002 0)], [(1000, T1, x1), (1001, T2, x2), (1002, T3, x3)]⟩ b → out b := by
          rintro b (hb | ⟨k, hk, rfl⟩)
          · exact hb
          · obtain ⟨bb, hbb⟩ := Option.isSome_iff_exists.1 hk
            rcases hbx k bb hbb with ⟨rfl, _⟩ | ⟨rfl, _⟩ | ⟨rfl, _⟩
            · exact hgs g1 (by simp)
            · exact hgs g2 (by simp)
            · exact hgs g3 (by simp)
        have hm : Moves w out w (badOf out ρ ⟨fn.ntmps, [(0, .ptr 1000 0), (1, .ptr 1001 0), (2, .ptr 1002 0)], [(1000, T1, x1), (1001, T2, x2), (1002, T3, x3)]⟩) := Moves.less hbad
        have hne : g1 ≠ g2 ∧ g1 ≠ g3 ∧ g2 ≠ g3 := by simp only [List.nodup_cons, List.mem_cons, List.not_mem_nil, or_false, not_or] at hnd; exact ⟨hnd.1.1, hnd.1.2, hnd.2.1⟩
        have hget : ∀ t d, get [(0, Den.ptr 1000 0), (1, .ptr 1001 0), (2, .ptr 1002 0)] t = d → (t = 0 ∧ d = .ptr 1000 0) ∨ (t = 1 ∧ d = .ptr 1001 0) ∨ (t = 2 ∧ d = .ptr 1002 0) ∨ d = .any := by
          intro t d hd
          by_cases e1 : 0 = t
          · subst e1; rw [get_same] at hd; exact .inl ⟨rfl, hd.symm⟩
          · rw [get_other e1] at hd
            by_cases e2 : 1 = t
            · subst e2; rw [get_same] at hd; exact .inr (.inl ⟨rfl, hd.symm⟩)
            · rw [get_other e2] at hd
              by_cases e3 : 2 = t
              · subst e3; rw [get_same] at hd; exact .inr (.inr (.inl ⟨rfl, hd.symm⟩))
              · rw [get_other e3] at hd; exact .inr (.inr (.inr hd.symm))
        refine ⟨by simp; omega, rfl, fun _ _ => rfl, fun t => ?_, fun k T xs hk => ?_, fun k k' h1 h2 he => ?_, fun t k ht => ?_, hout, Below.refl _ _⟩
        · rcases hget t _ rfl with ⟨rfl, e⟩ | ⟨rfl, e⟩ | ⟨rfl, e⟩ | e
          · rw [e]; exact (getD_args ([g1, g2, g3].map fun g => Value.pointer (some ⟨g, 0, none⟩)) _ 0 (by simp)).trans rfl
          · rw [e]; exact (getD_args ([g1, g2, g3].map fun g => Value.pointer (some ⟨g, 0, none⟩)) _ 1 (by simp)).trans rfl
          · rw [e]; exact (getD_args ([g1, g2, g3].map fun g => Value.pointer (some ⟨g, 0, none⟩)) _ 2 (by simp)).trans rfl
          · rw [e]; trivial
        · rcases hbx k _ hk with ⟨rfl, e⟩ | ⟨rfl, e⟩ | ⟨rfl, e⟩
          · cases e; obtain ⟨cs, h1, h2⟩ := hh 0 g1 T1 x1 rfl rfl; exact ⟨fun h => by omega, cs, h1, h2.move hm⟩
          · cases e; obtain ⟨cs, h1, h2⟩ := hh 1 g2 T2 x2 rfl rfl; exact ⟨fun h => by omega, cs, h1, h2.move hm⟩
          · cases e; obtain ⟨cs, h1, h2⟩ := hh 2 g3 T3 x3 rfl rfl; exact ⟨fun h => by omega, cs, h1, h2.move hm⟩
        · obtain ⟨b1, hb1⟩ := Option.isSome_iff_exists.1 h1
          obtain ⟨b2, hb2⟩ := Option.isSome_iff_exists.1 h2
          rcases hbx k _ hb1 with ⟨rfl, _⟩ | ⟨rfl, _⟩ | ⟨rfl, _⟩ <;> rcases hbx k' _ hb2 with ⟨rfl, _⟩ | ⟨rfl, _⟩ | ⟨rfl, _⟩ <;> simp [ρ] at he <;> first | rfl | exact absurd he hne.1 | exact absurd he hne.2.1 | exact absurd he hne.2.2 | exact absurd he.symm hne.1 | exact absurd he.symm hne.2.1 | exact absurd he.symm hne.2.2
        · rcases hget t _ rfl with ⟨rfl, e⟩ | ⟨rfl, e⟩ | ⟨rfl, e⟩ | e <;> (have ht : k ∈ (get [(0, Den.ptr 1000 0), (1, .ptr 1001 0), (2, .ptr 1002 0)] _).ks := ht; rw [e] at ht; simp only [Den.ks, List.mem_singleton, List.not_mem_nil] at ht) <;> subst ht <;> rfl
      · exact fun e a' w' h => fin_post h
end Go.Proofs.Ytcdkopidgibijaa.Lin
