/- Closures over two variables, handed over and called; what is deferred. -/
import Derived.Test.YtdhioaoojemcpaaClos
namespace Go.Proofs.Ytdhioaoojemcpaa.Lin
open Go Go.RowKit Go.Proofs.YtdhioaoojemcpaaW.PrintWords
variable {P : Program} {ops : Array Oper} {s : St} {o : Oper}
/-- What a function tells of a closure that it is handed. -/
def TellsK (P : Program) (f g : FuncId) (bs : List (TypeId × List At)) (r : Rs) : Prop := ∀ (out : Nat → Prop) (w : World) (gs : List Nat), (∀ b, out b → b < w.heap.size) → (∀ g ∈ gs, out g) → gs.Nodup → gs.length = bs.length →
  (∀ (i g : Nat) (T : TypeId) (xs : List At), gs[i]? = some g → bs[i]? = some (T, xs) → ∃ cs : List Value, w.heap[g]? = some (.cells cs.toArray T (0, 0)) ∧ SeesL w out cs xs) →
  CallsV P f #[.func (.func g) #[] (gs.map fun g => Value.pointer (some ⟨g, 0, none⟩)).toArray] w fun v w' => SeesR w' out v r ∧ Below w.heap.size w w'
class Tk (P : Program) (f g : Nat) (bs : List (TypeId × List At)) (r : outParam Rs) : Prop where t : TellsK P f g bs r
theorem step_callK {t : Nat} {rs : List Nat} {f g : FuncId} {x : Operand} {ts : Array TypeId} {ks : List Nat} {bs : List (TypeId × List At)} {r : Rs} (hop : o.op = .call { callee := .value (.func f), args := #[x], argTypes := ts }) (hd : o.dst = some t) (ht : t < s.n) (hb : guardIs ops s.env o = some true) (hs : ∀ L ∈ rdGuard ops o, L ∈ rs) (hx : ∀ L ∈ rdOp x, L ∈ rs) (hkr : ∀ k ∈ ks, 2 * k + 1 ∈ rs)
    (hden : denOf s.env x = .clo g ks) (hnd : ks.Nodup) (hbs : ks.map (boxOf s.box) = bs.map some) (hc : TellsK P f g bs r) : StepOk P ops s o rs (.slot t (.rs r)) :=
  step_on hb hs fun out w0 s' ρ a w hg hr K Q hK => by
    have hv := eval_sees hg hr x hx
    rw [hden] at hv
    have hv : a.eval x = .func (.func g) #[] (ks.map fun k => Value.pointer (some ⟨ρ k, 0, none⟩)).toArray := hv
    have hlen : ks.length = bs.length := by have := congrArg List.length hbs; simpa using this
    have hbox : ∀ (i k : Nat), ks[i]? = some k → ∃ b, bs[i]? = some b ∧ boxOf s'.box k = some b := by
      intro i k hi
      have h1 := congrArg (fun l => l[i]?) hbs
      simp only [List.getElem?_map, hi, Option.map_some] at h1
      cases hb2 : bs[i]? with
      | none => rw [hb2] at h1; cases h1
      | some b =>
        rw [hb2] at h1
        exact ⟨b, rfl, (hg.box k (hkr k (List.mem_of_getElem? hi))).trans (Option.some.inj h1)⟩
    have hmem : ∀ k ∈ ks, ∃ b, boxOf s'.box k = some b := fun k hk => by
      obtain ⟨i, hi⟩ := List.getElem?_of_mem hk
      obtain ⟨b, _, h⟩ := hbox i k hi
      exact ⟨b, h⟩
    have hK' : ∀ v w', SeesR w' (badOf out ρ s') v r → Below w.heap.size w w' → K (a.put (some t) v) w' := fun v w' h1 h2 => hK _ _ ((hr.mono h2).put (by rw [hg.n]; exact ht) h1 (fun _ h => by cases h))
    have hrun : ∀ n, (callFunc f #[.func (.func g) #[] (ks.map fun k => Value.pointer (some ⟨ρ k, 0, none⟩)).toArray]).run P w = n → (execOp a.eval o).run P w = n := by
      intro n hn
      have he : a.eval (.func f) = .func (.func f) #[] #[] := rfl
      unfold execOp
      simp [hop, resolve, Deferred.ofValue, invoke, he, hv, hn]
    have hnd2 : (ks.map ρ).Nodup := by
      refine List.Pairwise.map ρ ?_ (List.Pairwise.and_mem.1 hnd)
      intro k k' h e
      obtain ⟨b, h1⟩ := hmem k h.1
      obtain ⟨b', h2⟩ := hmem k' h.2.1
      exact h.2.2 (hr.inj k k' (by rw [h1]; rfl) (by rw [h2]; rfl) e)
    have := hc (badOf out ρ s') w (ks.map ρ) hr.bad_lt (fun g hgm => by
        obtain ⟨k, hk, rfl⟩ := List.mem_map.1 hgm
        obtain ⟨b, h⟩ := hmem k hk
        exact .inr ⟨k, by rw [h]; rfl, rfl⟩) hnd2 (by simp [hlen]) (fun i g T xs h1 h2 => by
        rw [List.getElem?_map] at h1
        cases hk : ks[i]? with
        | none => rw [hk] at h1; cases h1
        | some k =>
          rw [hk] at h1
          cases h1
          obtain ⟨b, h3, h4⟩ := hbox i k hk
          rw [h2] at h3
          cases h3
          obtain ⟨_, cs, h5, h6⟩ := hr.boxes k T xs h4
          exact ⟨cs, h5, h6⟩)
    rw [List.map_map] at this
    rcases this with ⟨h1, h2⟩ | ⟨v, h1, h2, h3⟩
    · unfold Oper.wp
      rw [hrun _ h1, Oper.upon_enter]
      refine h2.mono fun e w'' hh => ?_
      obtain ⟨v, rfl, h3, h4⟩ := hh
      rw [hd]
      exact hK' v w'' h3 h4
    · unfold Oper.wp
      rw [hrun _ h1, Oper.upon_value, hd]
      exact hK' v w h2 h3
section
variable {s0 : St} {G : St → List Tr → Prop} {rest : List Oper} {i : Nat} {l : List Tr} {n : Nat} {env : List (Nat × Den)} {box : List (Nat × TypeId × List At)} {g : List Nat} {t f f0 : Nat} {x : Operand}
theorem Run.callC2 {k1 k2 : Nat} {b1 b2 : TypeId × List At} {r : Rs} (h : Run P ops s0 G rest (i + 1) (⟨i, g ++ (rdOp x ++ [2 * k1 + 1, 2 * k2 + 1]), .slot t (.rs r)⟩ :: l) n ((t, .rs r) :: env) box) (hop : o.op = .call { callee := .value x, args := #[], argTypes := #[] } := by rfl) (hb : GOn ops env o g := by first | exact GOn.none rfl | exact GOn.some rfl rfl rfl) (hd : o.dst = some t := by rfl)
    (hx : denOf env x = .clo f [k1, k2] := by rfl) (h1 : boxOf box k1 = some b1 := by rfl) (h2 : boxOf box k2 = some b2 := by rfl) (hnd : [k1, k2].Nodup := by decide) (hc : Tc P f [b1, b2] r := by infer_instance) (ht : Nat.blt t n = true := by rfl) : Run P ops s0 G (o :: rest) i l n env box :=
  Run.cons (rs := g ++ (rdOp x ++ [2 * k1 + 1, 2 * k2 + 1])) (step_callC (s := ⟨n, env, box⟩) hop hd (blt ht) hb.on (fun _ h => List.mem_append_left _ (hb.rd ▸ h)) (fun _ h => List.mem_append_right _ (List.mem_append_left _ h)) (fun k hk => by
    refine List.mem_append_right _ (List.mem_append_right _ ?_)
    simp only [List.mem_cons, List.not_mem_nil, or_false] at hk ⊢
    omega) hx hnd (by simp [h1, h2]) hc.t) h rfl
theorem Run.callK2 {k1 k2 : Nat} {b1 b2 : TypeId × List At} {ts : Array TypeId} {r : Rs} (h : Run P ops s0 G rest (i + 1) (⟨i, g ++ (rdOp x ++ [2 * k1 + 1, 2 * k2 + 1]), .slot t (.rs r)⟩ :: l) n ((t, .rs r) :: env) box) (hop : o.op = .call { callee := .value (.func f0), args := #[x], argTypes := ts } := by rfl) (hb : GOn ops env o g := by first | exact GOn.none rfl | exact GOn.some rfl rfl rfl) (hd : o.dst = some t := by rfl)
    (hx : denOf env x = .clo f [k1, k2] := by rfl) (h1 : boxOf box k1 = some b1 := by rfl) (h2 : boxOf box k2 = some b2 := by rfl) (hnd : [k1, k2].Nodup := by decide) (hc : Tk P f0 f [b1, b2] r := by infer_instance) (ht : Nat.blt t n = true := by rfl) : Run P ops s0 G (o :: rest) i l n env box :=
  Run.cons (rs := g ++ (rdOp x ++ [2 * k1 + 1, 2 * k2 + 1])) (step_callK (s := ⟨n, env, box⟩) hop hd (blt ht) hb.on (fun _ h => List.mem_append_left _ (hb.rd ▸ h)) (fun _ h => List.mem_append_right _ (List.mem_append_left _ h)) (fun k hk => by
    refine List.mem_append_right _ (List.mem_append_right _ ?_)
    simp only [List.mem_cons, List.not_mem_nil, or_false] at hk ⊢
    omega) hx hnd (by simp [h1, h2]) hc.t) h rfl
end
/-- Two variables that were captured, and a state's first slots. -/
theorem rel_two {out : Nat → Prop} {w : World} {g1 g2 n : Nat} {T1 T2 : TypeId} {x1 x2 : List At} {cs1 cs2 : List Value} {tm : Array Value} {e0 : List (Nat × Den)} (hsz : tm.size = n) (hn : n ≤ 1000) (hout : ∀ b, out b → b < w.heap.size) (o1 : out g1) (o2 : out g2) (hne : g1 ≠ g2)
    (h1 : w.heap[g1]? = some (.cells cs1.toArray T1 (0, 0))) (s1 : SeesL w out cs1 x1) (h2 : w.heap[g2]? = some (.cells cs2.toArray T2 (0, 0))) (s2 : SeesL w out cs2 x2)
    (he : ∀ t k, k ∈ (get e0 t).ks → k = 1000 ∨ k = 1001) (hs : ∀ t, SeesD w out (fun k => if k = 1000 then g1 else g2) (tm.getD t undef) (get e0 t)) :
    RelP out ⟨w, [], fun k => if k = 1000 then g1 else g2⟩ (fun k => if k = 1000 then g1 else g2) ⟨n, e0, [(1000, T1, x1), (1001, T2, x2)]⟩ { tmps := tm, defers := [] } w := by
  have hbx : ∀ k b, boxOf [(1000, T1, x1), (1001, T2, x2)] k = some b → (k = 1000 ∧ b = (T1, x1)) ∨ (k = 1001 ∧ b = (T2, x2)) := by
    intro k b hk
    by_cases e1 : 1000 = k
    · subst e1; rw [boxOf_same] at hk; cases hk; exact .inl ⟨rfl, rfl⟩
    · rw [boxOf_other e1] at hk
      by_cases e2 : 1001 = k
      · subst e2; rw [boxOf_same] at hk; cases hk; exact .inr ⟨rfl, rfl⟩
      · rw [boxOf_other e2] at hk; cases hk
  have hbad : ∀ b, badOf out (fun k => if k = 1000 then g1 else g2) ⟨n, e0, [(1000, T1, x1), (1001, T2, x2)]⟩ b → out b := by
    rintro b (hb | ⟨k, hk, rfl⟩)
    · exact hb
    · obtain ⟨bb, hbb⟩ := Option.isSome_iff_exists.1 hk
      rcases hbx k bb hbb with ⟨rfl, _⟩ | ⟨rfl, _⟩
      · exact o1
      · exact o2
  have hm : Moves w out w (badOf out (fun k => if k = 1000 then g1 else g2) ⟨n, e0, [(1000, T1, x1), (1001, T2, x2)]⟩) := Moves.less hbad
  refine ⟨hsz, rfl, fun _ _ => rfl, fun t => (hs t).move hm, fun k T xs hk => ?_, fun k k' a1 a2 he' => ?_, fun t k ht => ?_, hout, Below.refl _ _⟩
  · rcases hbx k _ hk with ⟨rfl, e⟩ | ⟨rfl, e⟩
    · cases e; exact ⟨fun h => by omega, cs1, h1, s1.move hm⟩
    · cases e; exact ⟨fun h => by omega, cs2, h2, s2.move hm⟩
  · obtain ⟨b1, hb1⟩ := Option.isSome_iff_exists.1 a1
    obtain ⟨b2, hb2⟩ := Option.isSome_iff_exists.1 a2
    rcases hbx k _ hb1 with ⟨rfl, _⟩ | ⟨rfl, _⟩ <;> rcases hbx k' _ hb2 with ⟨rfl, _⟩ | ⟨rfl, _⟩ <;> simp at he' <;> first | rfl | exact absurd he' hne | exact absurd he'.symm hne
  · rcases he t k ht with rfl | rfl <;> rfl
/-- A closure over two variables, out of its body. -/
theorem TellsC.body2 {f : FuncId} {fn : Func} {c : Code} {T1 T2 : TypeId} {x1 x2 : List At} {r : Rs} (hf : P.funcs[f]? = some fn) (hc : fn.body = some c) (hlen : Nat.ble 2 fn.ntmps = true) (hle : Nat.ble fn.ntmps 1000 = true)
    (h : AWp P c ⟨fn.ntmps, [(0, .ptr 1000 0), (1, .ptr 1001 0)], [(1000, T1, x1), (1001, T2, x2)]⟩ (FinK P fn r)) (hname : (fn.name == "runtime.NumGoroutine") = false) : TellsC P f [(T1, x1), (T2, x2)] r := by
  intro out w gs hout hgs hnd hl hh
  unfold AWp at h
  match gs, hl, hgs, hnd, hh with
  | [g1, g2], _, hgs, hnd, hh =>
    have hn := Nat.le_of_ble_eq_true hlen
    refine .inl ⟨?_, ?_⟩
    · have h1 : fn.name ≠ "runtime.NumGoroutine" := by simpa using hname
      simp [callFunc, hf, h1, hc]
    · obtain ⟨cs1, h1, s1⟩ := hh 0 g1 T1 x1 rfl rfl
      obtain ⟨cs2, h2, s2⟩ := hh 1 g2 T2 x2 rfl rfl
      have hne : g1 ≠ g2 := by simp only [List.nodup_cons, List.mem_cons, List.not_mem_nil, or_false] at hnd; exact hnd.1
      have hget : ∀ t, (t = 0 ∧ get [(0, Den.ptr 1000 0), (1, .ptr 1001 0)] t = .ptr 1000 0) ∨ (t = 1 ∧ get [(0, Den.ptr 1000 0), (1, .ptr 1001 0)] t = .ptr 1001 0) ∨ get [(0, Den.ptr 1000 0), (1, .ptr 1001 0)] t = .any := by
        intro t
        by_cases e1 : 0 = t
        · subst e1; exact .inl ⟨rfl, rfl⟩
        · by_cases e2 : 1 = t
          · subst e2; exact .inr (.inl ⟨rfl, rfl⟩)
          · rw [get_other e1, get_other e2]; exact .inr (.inr rfl)
      refine calls_of_wp hf hc (wp_mono (h out _ _ w ⟨_, rel_two (by simp; omega) (Nat.le_of_ble_eq_true hle) hout (hgs g1 (by simp)) (hgs g2 (by simp)) hne h1 s1 h2 s2 (fun t k ht => ?_) (fun t => ?_)⟩) (fun e a' w' h => fin_post h))
      · rcases hget t with ⟨_, e⟩ | ⟨_, e⟩ | e <;> rw [e] at ht <;> simp [Den.ks] at ht <;> omega
      · rcases hget t with ⟨rfl, e⟩ | ⟨rfl, e⟩ | e <;> rw [e]
        · exact (getD_args ([g1, g2].map fun g => Value.pointer (some ⟨g, 0, none⟩)) _ 0 (by simp)).trans rfl
        · exact (getD_args ([g1, g2].map fun g => Value.pointer (some ⟨g, 0, none⟩)) _ 1 (by simp)).trans rfl
        · trivial
end Go.Proofs.Ytdhioaoojemcpaa.Lin
