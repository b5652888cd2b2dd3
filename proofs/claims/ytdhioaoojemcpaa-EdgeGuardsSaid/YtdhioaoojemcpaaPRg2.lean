/- Several functions' texts in one file. -/
import Derived.Test.YtdhioaoojemcpaaPRg1
import Derived.Test.YtdhioaoojemcpaaPRg0
import Derived.Test.YtdhioaoojemcpaaTy
import Derived.Test.YtdhioaoojemcpaaInt
import Derived.Test.YtdhioaoojemcpaaDec
import Derived.Test.YtdhioaoojemcpaaShort
import Derived.Test.YtdhioaoojemcpaaRat
import Derived.Test.YtdhioaoojemcpaaNum
namespace Go.Proofs.Ytdhioaoojemcpaa.PR
open Go.RowKit Go.Proofs.YtdhioaoojemcpaaW.PrintWords Go.Proofs.YtdhioaoojemcpaaW.PrintLast Go.Proofs.YtdhioaoojemcpaaW.PrintMore
attribute [local go_sem] max2_int min2_int max_two min_two max_three min_three max_four min_four   -- for this text's walks alone
set_option linter.unusedVariables false
set_option linter.unusedSimpArgs false
section
open Lin Flo Ieee
def dfr (p q : Value) : Deferred := { target := .fn (.func 59) #[p, q], args := #[] }
noncomputable def gReg1 : Code := match Try.f26.body with
  | some (.seq _ (.seq r _)) => r
  | _ => .skip
noncomputable def gRest : Code := match Try.f26.body with
  | some (.seq _ (.seq _ r)) => r
  | _ => .skip
theorem guard_r1 {a : Act} {w : World} {p q : Value} {Q : Exit → Act → World → Prop} (h2 : a.tmps.getD 2 undef = p) (h3 : a.tmps.getD 3 undef = q) (hsz : a.tmps.size = 16) (hd : a.defers = [])
    (k : Q .normal { tmps := a.tmps.setIfInBounds 5 (.func (.func 59) #[] #[p, q]), defers := [dfr p q] } w) : gReg1.wp Try.prog Q a w := by
  have hmf : ∀ (fn : Fn) (first cap : Array Value) (w : World), (Instr.makeFunc fn first cap).run Try.prog w = .ok (.func fn first cap) w := fun _ _ _ _ => rfl
  have e2 : a.tmps[2] = p := by rw [← h2]; simp [hsz]
  have e3 : a.tmps[3] = q := by rw [← h3]; simp [hsz]
  refine wp_region ?_
  simp [wpOps, go_sem, hmf, Act.eval, Act.put, e2, e3, hsz, hd, Region.wanted]
  exact .inl (.inl k)
/-- What both variables hold at first. -/
abbrev gBox (b0 : List (Nat × Go.TypeId × List At)) : List (Nat × Go.TypeId × List At) := (501, 35, [.val (.int .i64 0)]) :: (500, 34, [.val (.bool false), .row [], .row []]) :: b0
abbrev gEnv (e0 : List (Nat × Den)) : List (Nat × Den) := (5, .any) :: (3, .ptr 501 0) :: (2, .ptr 500 0) :: e0
abbrev ptr_ (b : Nat) : Value := .pointer (some ⟨b, 0, none⟩)
theorem guard_start {out : Nat → Prop} {w : World} {v0 : Value} {e0 : List (Nat × Den)} {b0 : List (Nat × Go.TypeId × List At)} {ρ0 pn : Nat → Nat} {R : Ending → World → Prop} (hr0 : RelP out ⟨w, [], pn⟩ ρ0 ⟨16, e0, b0⟩ { tmps := #[v0] ++ Array.replicate 15 undef, defers := [] } w) (he0 : ∀ t k, k ∈ (get e0 t).ks → 1000 ≤ k) (hb0 : ∀ k, (boxOf b0 k).isSome = true → 1000 ≤ k)
    (rest : ∀ (ρ : Nat → Nat) (a : Act) (w' : World), RelP out ⟨w, [dfr (ptr_ (ρ 500)) (ptr_ (ρ 501))], ρ⟩ ρ ⟨16, gEnv e0, gBox b0⟩ a w' → gRest.wp Try.prog (bodyPostD Try.prog Try.f26 R) a w') : Calls Try.prog 26 #[v0] w R := by
  refine calls_of_wp_defers Try.func26 rfl ?_
  have hx : ∀ k, k < 1000 → boxOf b0 k = none := fun k hk => by
    cases h : boxOf b0 k with
    | none => rfl
    | some b => have := hb0 k (by rw [h]; rfl); omega
  have W0 : AWp Try.prog (match Try.f26.body with | some (.seq c _) => c | _ => .skip) ⟨16, e0, b0⟩ (fun e s' => e = .normal ∧ s' = ⟨16, (3, .ptr 3 0) :: (2, .ptr 2 0) :: e0, (3, 35, [.val (.int .i64 0)]) :: (2, 34, [.val (.bool false), .row [], .row []]) :: b0⟩) := by
    refine AWp.regF ?_
    refine Run.al ?_ (hf := hx 2 (by decide))
    refine Run.al ?_ (hf := (boxOf_other (by decide) _ _).trans (hx 3 (by decide)))
    refine Run.endF ?_
    exact ⟨rfl, rfl⟩
  unfold AWp at W0
  refine wp_seq (wp_mono (W0 out ⟨w, [], pn⟩ _ w ⟨ρ0, hr0⟩) (fun e a' w' hh => ?_))
  obtain ⟨s', ⟨rfl, rfl⟩, ρ, hr⟩ := hh
  refine wp_seq (guard_r1 (p := ptr_ (ρ 2)) (q := ptr_ (ρ 3)) ?_ ?_ hr.size hr.defers ?_)
  · have := hr.slots 2
    rw [get_other (by decide), get_same] at this
    exact this
  · have := hr.slots 3
    rw [get_same] at this
    exact this
  · have h2 := rename (D := [dfr (ptr_ (ρ 2)) (ptr_ (ρ 3))]) (v5 := .func (.func 59) #[] #[ptr_ (ρ 2), ptr_ (ρ 3)]) hr he0 hb0 (by decide) (by decide)
    exact rest (fun k => if k = 501 then ρ 3 else if k = 500 then ρ 2 else ρ k) _ _ h2
/-- What is told at the end. -/
theorem guard_end {out : Nat → Prop} {w w' : World} {D : List Deferred} {ρ pn : Nat → Nat} {e : List (Nat × Den)} {bx : List (Nat × Go.TypeId × List At)} {a : Act} {x0 x1 x2 y : At} (hr : RelP out ⟨w, D, pn⟩ ρ ⟨16, e, bx⟩ a w') (h2 : a.tmps.getD 2 undef = ptr_ (ρ 500)) (h3 : a.tmps.getD 3 undef = ptr_ (ρ 501)) (b2 : boxOf bx 500 = some (34, [x0, x1, x2])) (b3 : boxOf bx 501 = some (35, [y])) :
    ∃ v, (results Try.f26 a.tmps).run Try.prog w' = .ok v w' ∧ SeesR w' out v (.tup [.agg [x0, x1, x2], .one y]) ∧ Below w.heap.size w w' := by
  have hq : RelP out ⟨w, [], ρ⟩ ρ ⟨16, [(2, .ptr 500 0), (3, .ptr 501 0)], bx⟩ { tmps := a.tmps, defers := [] } w' := refit hr hr.size (fun t => by
    rcases get_two (.ptr 500 0) (.ptr 501 0) 2 3 t with ⟨rfl, e⟩ | ⟨rfl, e⟩ | e <;> rw [e]
    · exact h2
    · exact h3
    · trivial) (fun t j hj => by
    rcases get_two (.ptr 500 0) (.ptr 501 0) 2 3 t with ⟨rfl, e⟩ | ⟨rfl, e⟩ | e <;> rw [e] at hj <;> simp only [Den.ks, List.mem_singleton, List.not_mem_nil] at hj <;> subst hj
    · show (boxOf bx 500).isSome = true; rw [b2]; rfl
    · show (boxOf bx 501).isSome = true; rw [b3]; rfl)
  have fin : FinK Try.prog Try.f26 (.tup [.agg [x0, x1, x2], .one y]) .ret ⟨16, [(2, .ptr 500 0), (3, .ptr 501 0)], bx⟩ := FinK.ret2 (h1 := ResIs.row rfl b2 inferInstance rfl) (h2 := ResIs.one rfl b3 inferInstance) (hr := rfl)
  obtain ⟨_, v, q1, u, q2, q3, q4⟩ := fin_post ⟨_, fin, ρ, hq⟩
  cases q2
  exact ⟨_, q1, q3, q4⟩
/-- Nothing is handed over: that panics, and is caught. -/
theorem guard_caught {u : Go.TypeId} {pv : Value} {out : Nat → Prop} {w w' : World} {ρ pn : Nat → Nat} {e : List (Nat × Den)} {b0 : List (Nat × Go.TypeId × List At)} {a : Act} {x0 x1 x2 y : At} (hr : RelP out ⟨w, [dfr (ptr_ (ρ 500)) (ptr_ (ρ 501))], pn⟩ ρ ⟨16, e, (501, 35, [y]) :: (500, 34, [x0, x1, x2]) :: b0⟩ a w') (h2 : a.tmps.getD 2 undef = ptr_ (ρ 500)) (h3 : a.tmps.getD 3 undef = ptr_ (ρ 501)) :
    bodyPostD Try.prog Try.f26 (fun e w'' => ∃ v, e = .returned v ∧ SeesR w'' out v (.tup [.agg [.val (.bool zq.1), .row zq.2.1, .row zq.2.2], .one (.val (.int .i64 1))]) ∧ Below w.heap.size w w'') (.panic [{ v := .iface u pv, recovered := false }]) a w' := by
  show Leaves Try.prog _ a.tmps _ a.defers _ w'
  rw [show a.defers = _ from hr.defers]
  refine leaves_cons (f := 59) (args := #[ptr_ (ρ 500), ptr_ (ρ 501)]) (by simp) (by simp [go_sem]) ?_
  refine (catch_panicking hr).mono ?_
  rintro e u' w'' ⟨rfl, rfl, ρ', a', e', hr'⟩
  have p2 : ρ' 500 = ρ 500 := hr'.pin 500 (by show 5 ≤ 500; decide)
  have p3 : ρ' 501 = ρ 501 := hr'.pin 501 (by show 5 ≤ 501; decide)
  have hq : RelP out ⟨w, [], ρ'⟩ ρ' ⟨16, [], (501, 35, [.val (.int .i64 1)]) :: (500, 34, [.val (.bool zq.1), .row zq.2.1, .row zq.2.2]) :: (501, 35, [y]) :: (500, 34, [x0, x1, x2]) :: b0⟩ { tmps := a.tmps, defers := [] } w'' := refit hr' hr.size (fun t => trivial) (fun t j hj => by cases hj)
  obtain ⟨v, q1, q2, q3⟩ := guard_end hq (by rw [p2]; exact h2) (by rw [p3]; exact h3) rfl rfl
  exact ⟨v, q1, v, rfl, q2, q3⟩
end
section
open Lin Flo Ieee
noncomputable def gReg3 : Code := match Try.f26.body with
  | some (.seq _ (.seq _ (.seq (.seq _ (.cond _ c _)) _))) => c
  | _ => .skip
theorem guard_r3 {a : Act} {w : World} {Q : Exit → Act → World → Prop} (hsz : a.tmps.size = 16)
    (k : Q (.panic [{ v := .iface 35 (.int .i64 1), recovered := false }]) { tmps := a.tmps.setIfInBounds 8 (.iface 35 (.int .i64 1)), defers := a.defers } w) : gReg3.wp Try.prog Q a w := by
  refine wp_region ?_
  simp [wpOps, go_sem, Act.eval, Act.put, hsz, Region.wanted]
  exact .inl (.inl k)
theorem func_ty : Try.prog.underlying 51 = some (.func #[] #[34] false) := by kernel_rfl
theorem eq_nil (x y : Operand) (w : World) : (eqVal .eql 51 x y .nilFunc .nilFunc).run Try.prog w = .ok (.bool true) w := by
  have h := func_ty
  refine run_val (fun _ h => by cases h) (fun h => by cases h) ?_
  show (do pure (.bool (← Op.equal _ .nilFunc .nilFunc)) : Sem Value).run Try.prog w = _
  rw [Sem.run_bind]
  have : (Op.equal 51 .nilFunc .nilFunc).run Try.prog w = .ok true w := by
    show (Op.equalIn (9999 + 1) _ _ _).run Try.prog w = _
    rw [Op.equalIn, Sem.run_bind, run_underlying h w]
    rfl
  rw [this]
  rfl
noncomputable def gReg2 : Code := match Try.f26.body with
  | some (.seq _ (.seq _ (.seq (.seq c _) _))) => c
  | _ => .skip
theorem guard_throw {t : Go.TypeId} {pv : Value} {out : Nat → Prop} {w w1 : World} {ρ ρ1 : Nat → Nat} {e : List (Nat × Den)} {b0 : List (Nat × Go.TypeId × List At)} {a1 : Act} {tm : Array Value} (hr1 : RelP out ⟨w, [dfr (ptr_ (ρ 500)) (ptr_ (ρ 501))], ρ⟩ ρ1 ⟨16, e, gBox b0⟩ a1 w1) (hsz : tm.size = 16) (g2 : get e 2 = .ptr 500 0) (g3 : get e 3 = .ptr 501 0) (t2 : tm.getD 2 undef = a1.tmps.getD 2 undef) (t3 : tm.getD 3 undef = a1.tmps.getD 3 undef) :
    bodyPostD Try.prog Try.f26 (fun e w'' => ∃ v, e = .returned v ∧ SeesR w'' out v (.tup [.agg [.val (.bool zq.1), .row zq.2.1, .row zq.2.2], .one (.val (.int .i64 1))]) ∧ Below w.heap.size w w'') (.panic [{ v := .iface t pv, recovered := false }]) { tmps := tm, defers := a1.defers } w1 := by
  have p2 : ρ1 500 = ρ 500 := hr1.pin 500 (by show 16 ≤ 500; decide)
  have p3 : ρ1 501 = ρ 501 := hr1.pin 501 (by show 16 ≤ 501; decide)
  have hd : a1.defers = [dfr (ptr_ (ρ1 500)) (ptr_ (ρ1 501))] := by rw [p2, p3]; exact hr1.defers
  rw [hd]
  have s2 := hr1.slots 2
  have s3 := hr1.slots 3
  rw [show get (⟨16, e, gBox b0⟩ : St).env 2 = _ from g2] at s2
  rw [show get (⟨16, e, gBox b0⟩ : St).env 3 = _ from g3] at s3
  exact guard_caught (pn := ρ1) (e := []) (refit hr1 hsz (fun t => trivial) (fun t j hj => by cases hj)) (t2.trans s2) (t3.trans s3)
theorem guard_enter (v : Value) (w : World) : (callFunc 26 #[v]).run Try.prog w = .ok (.enter 26 #[v]) w := by
  have h1 : Try.f26.name ≠ "runtime.NumGoroutine" := by simp [Try.f26]
  obtain ⟨c, hc⟩ : ∃ c, Try.f26.body = some c := ⟨_, rfl⟩
  simp [callFunc, Try.func26, h1, hc]
theorem guard_nil : Tl Try.prog 26 [.one (.val .nilFunc)] (.tup [.agg [.val (.bool zq.1), .row zq.2.1, .row zq.2.2], .one (.val (.int .i64 1))]) := ⟨fun out w vs ho hl hv => by
  obtain ⟨u, rfl, h⟩ := args1 hl hv
  obtain ⟨rfl, _⟩ := h
  refine .inl ⟨guard_enter _ w, ?_⟩
  have hg : ∀ t, (t = 0 ∧ get [(0, Den.rs (.el (.one (.val .nilFunc))))] t = .rs (.el (.one (.val .nilFunc)))) ∨ get [(0, Den.rs (.el (.one (.val .nilFunc))))] t = .any := by
    intro t
    by_cases e1 : 0 = t
    · subst e1; exact .inl ⟨rfl, get_same _ _ _⟩
    · rw [get_other e1]; exact .inr rfl
  refine guard_start (e0 := [(0, .rs (.el (.one (.val .nilFunc))))]) (b0 := []) (ρ0 := fun _ => 0) (pn := fun _ => 0) ⟨rfl, rfl, fun _ _ => rfl, fun t => ?_, fun k T xs hk => (by cases hk), fun k k' hk => (by cases hk), fun t k ht => ?_, ho, Below.refl _ _⟩ (fun t k ht => ?_) (fun k hk => by cases hk) ?_
  · rcases hg t with ⟨rfl, e⟩ | e
    · show SeesD _ _ _ _ (get [(0, Den.rs (.el (.one (.val .nilFunc))))] 0)
      rw [e]; exact ⟨rfl, rfl⟩
    · show SeesD _ _ _ _ (get [(0, Den.rs (.el (.one (.val .nilFunc))))] t)
      rw [e]; trivial
  · have ht : k ∈ (get [(0, Den.rs (.el (.one (.val .nilFunc))))] t).ks := ht
    rcases hg t with ⟨_, e⟩ | e <;> rw [e] at ht <;> cases ht
  · rcases hg t with ⟨_, e⟩ | e <;> rw [e] at ht <;> cases ht
  · intro ρ a w' hr
    have W2 : AWp Try.prog gReg2 ⟨16, gEnv [(0, .rs (.el (.one (.val .nilFunc))))], gBox []⟩ (fun e s' => e = .normal ∧ s' = ⟨16, (7, .rs (.el (.one (.val (.bool true))))) :: (6, .rs (.el (.one (.val .nilFunc)))) :: gEnv [(0, .rs (.el (.one (.val .nilFunc))))], gBox []⟩) := by
      refine AWp.regF ?_
      refine Run.mv ?_
      refine Run.bin ?_ (hrun := eq_nil _ _)
      exact Run.endF ⟨rfl, rfl⟩
    unfold AWp at W2
    refine wp_seq (wp_seq (wp_mono (W2 _ _ _ _ ⟨ρ, hr⟩) (fun e a1 w1 hh => ?_)))
    obtain ⟨s', ⟨rfl, rfl⟩, hr1⟩ := hh
    refine wp_cond_true (hr1.eval rfl) ?_
    obtain ⟨ρ1, hr1⟩ := hr1
    refine guard_r3 hr1.size ?_
    exact guard_throw hr1 (by simpa using hr1.size) rfl rfl (by simp [Array.getElem?_setIfInBounds]) (by simp [Array.getElem?_setIfInBounds])⟩
end
section
open Lin Flo Ieee
theorem eq_clo (x y : Operand) (f : Fn) (p q : Array Value) (w : World) : (eqVal .eql 51 x y (.func f p q) .nilFunc).run Try.prog w = .ok (.bool false) w := by
  have h := func_ty
  refine run_val (fun _ h => by cases h) (fun h => by cases h) ?_
  show (do pure (.bool (← Op.equal _ (.func f p q) .nilFunc)) : Sem Value).run Try.prog w = _
  rw [Sem.run_bind]
  have : (Op.equal 51 (.func f p q) .nilFunc).run Try.prog w = .ok false w := by
    show (Op.equalIn (9999 + 1) _ _ _).run Try.prog w = _
    rw [Op.equalIn, Sem.run_bind, run_underlying h w]
    rfl
  rw [this]
  rfl
theorem Run_ceq {ops : Array Oper} {s0 : St} {G : St → List Tr → Prop} {o : Oper} {rest : List Oper} {i : Nat} {l : List Tr} {n : Nat} {env : List (Nat × Den)} {box : List (Nat × Go.TypeId × List At)} {t : Nat} {x y : Operand} {f : Nat} {ks : List Nat} {T2 : Go.TypeId}
    (h : Run Try.prog ops s0 G rest (i + 1) (⟨i, rdOp x ++ rdOp y, .slot t (.rs (.el (.one (.val (.bool false)))))⟩ :: l) n ((t, .rs (.el (.one (.val (.bool false))))) :: env) box) (hop : o.op = .binOp .eql 51 x y T2) (hb : GOn ops env o []) (hd : o.dst = some t) (hx : denOf env x = .clo f ks) (hy : Lin.valOf (denOf env y) = some .nilFunc) (ht : Nat.blt t n = true) : Run Try.prog ops s0 G (o :: rest) i l n env box :=
  Run.cons (rs := rdOp x ++ rdOp y) (step_yields (s := ⟨n, env, box⟩) hd (blt ht) hb.on (fun _ h => by rw [hb.rd] at h; cases h) fun out w0 s' ρ a w hg hr => by
    have h1 := eval_sees hg hr x (fun L hL => List.mem_append_left _ hL)
    rw [hx] at h1
    have h1 : a.eval x = .func (.func f) #[] (ks.map fun k => Value.pointer (some ⟨ρ k, 0, none⟩)).toArray := h1
    have h2 : a.eval y = .nilFunc := valOf_eq (eval_sees hg hr y (fun L hL => List.mem_append_right _ hL)) hy
    refine ⟨.bool false, ?_, ⟨rfl, rfl⟩, fun _ h => by cases h⟩
    have := eq_clo x y (.func f) #[] (ks.map fun k => Value.pointer (some ⟨ρ k, 0, none⟩)).toArray w
    unfold eqVal at this
    unfold execOp
    simp only [hop, h1, h2]
    rw [Sem.run_bind, this]
    rfl) h rfl
noncomputable def gReg4 : Code := match Try.f26.body with
  | some (.seq _ (.seq _ (.seq _ (.seq c _)))) => c
  | _ => .skip
theorem guard_r4 {a : Act} {w : World} {g1 g2 : Nat} {Q : Exit → Act → World → Prop} (hsz : a.tmps.size = 16) (h0 : a.tmps.getD 0 undef = .func (.func 27) #[] #[ptr_ g1, ptr_ g2]) (hb : w.heap[g1]? = some (.cells #[.bool true] 4 (0, 0)))
    (k : ∀ w', Below w.heap.size w w' → Q (.panic [{ v := boom, recovered := false }]) { tmps := a.tmps.setIfInBounds 9 (.func (.func 27) #[] #[ptr_ g1, ptr_ g2]), defers := a.defers } w') : gReg4.wp Try.prog Q a w := by
  have e0 : a.tmps[0] = .func (.func 27) #[] #[ptr_ g1, ptr_ g2] := by rw [← h0]; simp [hsz]
  have h1 : Try.f27.name ≠ "runtime.NumGoroutine" := by simp [Try.f27]
  obtain ⟨c, hc⟩ : ∃ c, Try.f27.body = some c := ⟨_, rfl⟩
  have hcall : (callFunc 27 #[ptr_ g1, ptr_ g2]).run Try.prog w = .ok (.enter 27 #[ptr_ g1, ptr_ g2]) w := by simp [callFunc, Try.func27, h1, hc]
  refine wp_region ?_
  simp [wpOps, go_sem, Act.eval, Act.put, hsz, e0, Region.wanted, hcall]
  have key := (clo_panics (g2 := g2) (cs := #[]) hb).mono (R' := fun e w' => ∃ _ : Below w.heap.size w w', e = .panicked [{ v := boom, recovered := false }]) (fun e w' ⟨h1, h2⟩ => ⟨h2, h1⟩)
  first
    | (refine .inl (.inl (key.mono ?_)); rintro e w'' ⟨hb', rfl⟩; exact k w'' hb')
    | (refine .inl (key.mono ?_); rintro e w'' ⟨hb', rfl⟩; exact k w'' hb')
    | (refine key.mono ?_; rintro e w'' ⟨hb', rfl⟩; exact k w'' hb')
end
section
open Lin Flo Ieee
abbrev cEnv : List (Nat × Den) := [(0, .clo 27 [1000, 1001])]
abbrev cBox (p : Bool) (x0 x1 x2 : At) : List (Nat × Go.TypeId × List At) := [(1000, 4, [.val (.bool p)]), (1001, 34, [x0, x1, x2])]
theorem cEnv_get (t : Nat) : (t = 0 ∧ get cEnv t = .clo 27 [1000, 1001]) ∨ get cEnv t = .any := by
  by_cases e1 : 0 = t
  · subst e1; exact .inl ⟨rfl, get_same _ _ _⟩
  · unfold cEnv; rw [get_other e1]; exact .inr rfl
theorem cEnv_ks (t k : Nat) (h : k ∈ (get cEnv t).ks) : k = 1000 ∨ k = 1001 := by
  rcases cEnv_get t with ⟨_, e⟩ | e <;> rw [e] at h
  · simpa [Den.ks] using h
  · cases h
theorem cBox_ks (p : Bool) (x0 x1 x2 : At) (k : Nat) (h : (boxOf (cBox p x0 x1 x2) k).isSome = true) : 1000 ≤ k := by
  by_cases e1 : 1000 = k
  · omega
  · unfold cBox at h
    rw [boxOf_other e1] at h
    by_cases e2 : 1001 = k
    · omega
    · rw [boxOf_other e2] at h; cases h
theorem guard_clo {p : Bool} {x0 x1 x2 : At} {r : Rs}
    (rest : ∀ (out : Nat → Prop) (w : World) (ρ : Nat → Nat) (a : Act) (w' : World), RelP out ⟨w, [dfr (ptr_ (ρ 500)) (ptr_ (ρ 501))], ρ⟩ ρ ⟨16, (7, .rs (.el (.one (.val (.bool false))))) :: (6, .clo 27 [1000, 1001]) :: gEnv cEnv, gBox (cBox p x0 x1 x2)⟩ a w' → (match gRest with | .seq _ c => c | _ => .skip).wp Try.prog (bodyPostD Try.prog Try.f26 (fun (e : Ending) w'' => ∃ v, e = Ending.returned v ∧ SeesR w'' out v r ∧ Below w.heap.size w w'')) a w') :
    TellsK Try.prog 26 27 [(4, [.val (.bool p)]), (34, [x0, x1, x2])] r := by
  intro out w gs hout hgs hnd hl hh
  match gs, hl, hgs, hnd, hh with
  | [g1, g2], _, hgs, hnd, hh =>
    obtain ⟨cs1, h1, s1⟩ := hh 0 g1 _ _ rfl rfl
    obtain ⟨cs2, h2, s2⟩ := hh 1 g2 _ _ rfl rfl
    have hne : g1 ≠ g2 := by simp only [List.nodup_cons, List.mem_cons, List.not_mem_nil, or_false] at hnd; exact hnd.1
    refine .inl ⟨guard_enter _ w, ?_⟩
    refine guard_start (e0 := cEnv) (b0 := cBox p x0 x1 x2) (rel_two (by rfl) (by decide) hout (hgs g1 (by simp)) (hgs g2 (by simp)) hne h1 s1 h2 s2 (fun t k ht => cEnv_ks t k ht) (fun t => ?_)) (fun t k ht => by rcases cEnv_ks t k ht with h | h <;> omega) (cBox_ks p x0 x1 x2) ?_
    · rcases cEnv_get t with ⟨rfl, e⟩ | e <;> rw [e]
      · rfl
      · trivial
    · intro ρ a w' hr
      have W2 : AWp Try.prog gReg2 ⟨16, gEnv cEnv, gBox (cBox p x0 x1 x2)⟩ (fun e s' => e = .normal ∧ s' = ⟨16, (7, .rs (.el (.one (.val (.bool false))))) :: (6, .clo 27 [1000, 1001]) :: gEnv cEnv, gBox (cBox p x0 x1 x2)⟩) := by
        refine AWp.regF ?_
        refine Run.mvC ?_
        refine Run_ceq ?_ rfl (GOn.none rfl) rfl rfl rfl rfl
        exact Run.endF ⟨rfl, rfl⟩
      unfold AWp at W2
      refine wp_seq (wp_seq (wp_mono (W2 _ _ _ _ ⟨ρ, hr⟩) (fun e a1 w1 hh => ?_)))
      obtain ⟨s', ⟨rfl, rfl⟩, hr1⟩ := hh
      refine wp_cond_false (hr1.eval rfl) (wp_skip ?_)
      obtain ⟨ρ1, hr1⟩ := hr1
      have p2 : ρ1 500 = ρ 500 := hr1.pin 500 (by show 16 ≤ 500; decide)
      have p3 : ρ1 501 = ρ 501 := hr1.pin 501 (by show 16 ≤ 501; decide)
      have hd : a1.defers = [dfr (ptr_ (ρ1 500)) (ptr_ (ρ1 501))] := by rw [p2, p3]; exact hr1.defers
      exact rest out w ρ1 a1 w1 ⟨hr1.size, hd, fun _ _ => rfl, hr1.slots, hr1.boxes, hr1.inj, hr1.ptrs, hr1.out_, hr1.below⟩
instance guard_panics {x0 x1 x2 : At} : Tk Try.prog 26 27 [(4, [.val (.bool true)]), (34, [x0, x1, x2])] (.tup [.agg [.val (.bool zq.1), .row zq.2.1, .row zq.2.2], .one (.val (.int .i64 1))]) := ⟨guard_clo (fun out w ρ a w' hr => by
  have s0 := hr.slots 0
  have b0 := hr.boxes 1000 _ _ rfl
  obtain ⟨_, cs, hc, hs⟩ := b0
  have hcs : cs = [.bool true] := valsOf_eq hs rfl
  subst hcs
  refine wp_seq (guard_r4 (g1 := ρ 1000) (g2 := ρ 1001) hr.size s0 hc (fun w'' hb => ?_))
  exact guard_throw (hr.mono hb) (by simpa using hr.size) rfl rfl (by simp [Array.getElem?_setIfInBounds]) (by simp [Array.getElem?_setIfInBounds]))⟩
end
section
open Lin Flo Ieee
set_option maxHeartbeats 4000000 in
theorem guard_ok {m : Bool} {l1 l2 : List Int} {a : Rat} {J : Nat} (ha : Qn.Is m l1 l2 a J) (hJ1 : 1 ≤ J) (hJ : J ≤ 10000) : Tk Try.prog 26 27 [(4, [.val (.bool false)]), (34, [.val (.bool m), .row l1, .row l2])] (.tup [.agg [.val (.bool (Qn.qd a).1), .row (Qn.qd a).2.1, .row (Qn.qd a).2.2], .one (.val (.int .i64 0))]) := ⟨guard_clo (fun out w ρ a' w' hr => by
  obtain ⟨k, hk⟩ := (rat_Make.ev ha.num ha.ws ha.len hJ1 (by omega)).rounds
  rw [ha.val] at hk
  have M : Ans (rat_Make.f k m l1 l2) (Qn.qd a) := ⟨hk⟩
  have W : AWp Try.prog (match gRest with | .seq _ c => c | _ => .skip) ⟨16, (7, .rs (.el (.one (.val (.bool false))))) :: (6, .clo 27 [1000, 1001]) :: gEnv cEnv, gBox (cBox false (.val (.bool m)) (.row l1) (.row l2))⟩ (fun e s' => e = .ret ∧ ∃ e' bx, s' = ⟨16, e', bx⟩ ∧ get e' 2 = .ptr 500 0 ∧ get e' 3 = .ptr 501 0 ∧ boxOf bx 500 = some (34, [.val (.bool (Qn.qd a).1), .row (Qn.qd a).2.1, .row (Qn.qd a).2.2]) ∧ boxOf bx 501 = some (35, [.val (.int .i64 0)])) := by
    refine AWp.seq ?_
    repeat' (first
      | refine Run.mvC ?_ | refine Run.callC2 ?_ | refine Run.mv ?_ | refine Run.asg ?_ | refine Run.fld ?_ | refine Run.ld1 ?_ | refine Run.ld2 ?_ | refine Run.call2 ?_ | refine Run.st ?_ | refine Run.st1 ?_ | refine Run.al ?_
      | refine Run.endF ?_ | refine Run.endT ?_ | refine K.thenN ?_ | refine K.thenR ?_
      | refine AWp.seq ?_ | refine AWp.regF ?_ | refine AWp.regT ?_ | refine AWp.ret ?_)
    exact ⟨rfl, _, _, rfl, rfl, rfl, rfl, rfl⟩
  unfold AWp at W
  refine wp_mono (W _ _ _ _ ⟨ρ, hr⟩) (fun e a2 w2 hh => ?_)
  obtain ⟨s', ⟨rfl, e', bx, rfl, g2, g3, b2, b3⟩, ρ2, hr2⟩ := hh
  show Leaves Try.prog _ a2.tmps _ a2.defers _ w2
  rw [show a2.defers = _ from hr2.defers]
  refine leaves_cons (f := 59) (args := #[ptr_ (ρ 500), ptr_ (ρ 501)]) (by simp) (by simp [go_sem]) ?_
  refine (catch_idle _ _ w2).mono ?_
  rintro e u' w'' ⟨rfl, rfl, rfl⟩
  have s2 := hr2.slots 2
  have s3 := hr2.slots 3
  rw [show get (⟨16, e', bx⟩ : St).env 2 = _ from g2] at s2
  rw [show get (⟨16, e', bx⟩ : St).env 3 = _ from g3] at s3
  obtain ⟨v, q1, q2, q3⟩ := guard_end hr2 s2 s3 b2 b3
  exact ⟨v, q1, v, rfl, q2, q3⟩)⟩
end
theorem eqA43 (d : Nat) (w : World) (x0 y0 : ByteArray) (x1 y1 : ByteArray) :
    (Op.equalIn (d + 2) 43 (.agg #[.string x0, .string x1]) (.agg #[.string y0, .string y1])).run Try.prog w = .ok (x0.toList == y0.toList && (x1.toList == y1.toList)) w := by
  refine eqA_of Try.underlying43 (by kernel_rfl) ?_
  refine eqf_cons (by rfl) (by go_simp; rfl) (by go_simp; rfl) (by go_simp) ?_
  exact eqf_last (by rfl) (by go_simp; rfl) (by go_simp; rfl) (by go_simp)
def offcutref02_Made.f (a0 : Bool) (a1 : ByteArray) : Option (ByteArray) := if a0 = true then (if a1.toList = ([48] : List UInt8) then (some a1) else (if 1 + a1.size ≤ 9223372036854775807 then (some ((⟨#[45]⟩ : ByteArray) ++ a1)) else (none))) else (some a1)
theorem offcutref02_Made.sem (m : Bool) (n : Nat) (hn : (Dec.dc n).length < 9000000000000000000) : offcutref02_Made.f m (Dec.dec n) = some (Zn.tz (Zn.zv m n)) := by
 unfold offcutref02_Made.f
 rw [Zn.tz_zv]
 cases m
 ·rw [if_neg (by decide), if_neg (by simp)]
 ·rw [if_pos rfl]
  by_cases h : n = 0
  ·rw [if_pos ((Dec.dec_is0 n).2 h), if_neg (fun e => e.2 h)]
  ·rw [if_neg (fun e => h ((Dec.dec_is0 n).1 e)), if_pos (by rw [Zn.dec_size]; omega), if_pos ⟨rfl, h⟩]
set_option synthInstance.checkSynthOrder false in
open Lin in
set_option maxHeartbeats 4000000 in
instance offcutref02_Made.t {a0 : Bool} {a1 : ByteArray} {r : ByteArray} [h : Ans (offcutref02_Made.f a0 a1) r] : Tl Try.prog 48 [.one (.val (.bool a0)), .one (.val (.string a1))] (.el (.one (.val (.string r)))) := by
 have h := h.out
 unfold offcutref02_Made.f at h
 repeat' (first | (replace h := Lin.bndK h) | (replace h := Lin.bnd h; obtain ⟨_, _, h⟩ := h) | split at h | cases h)
 all_goals exact ⟨Tells.go Try.func48 Try.ntmps48⟩
def offcutref02_Below.f (a0 : ByteArray) : Option (Bool) := if 0 < (a0.size : Int) then (some ((bt a0 0) == 45)) else (none)
set_option maxHeartbeats 8000000 in
set_option maxRecDepth 100000 in
theorem offcutref02_Below.calls (a0 : ByteArray) (r : Bool) (w : World) (h : offcutref02_Below.f a0 = some r) :
  Calls Try.prog 79 #[.string a0] w fun e w' => e = .returned (.bool r) ∧ Drawn0 w w' := by
 have H : (if 0 < (a0.size : Int) then (some ((bt a0 0) == 45)) else (none)) = some r := h
 clear h
 by_cases c2 : 0 < (a0.size : Int)
 ·rw [if_pos c2] at H
  have c2b0 : decide (0 < (a0.size : Int)) = true := decide_eq_true c2
  have c2b1 : decide (0 < a0.size) = true := decide_eq_true (by omega)
  clear c2
  obtain rfl := Option.some.inj H
  have p3 : 0 ≤ (0 : Int) := (by omega)
  have q3 : 0 < a0.size := (by have : (0 : Int) < (a0.size : Int) := of_decide_eq_true (by first | (with_reducible assumption) | assumption); omega)
  have hx3 : ∀ h : 0 < a0.size, ((a0[0]'h).toNat : Int) = bt a0 0 := bt_at a0 0
  clear p3
  have qi3 : (0 < (a0.size : Int)) = True := eq_true (of_decide_eq_true (by first | (with_reducible assumption) | assumption))
  replace q3 := eq_true q3
  go_enter Try.func79, Try.ntmps79
  go_wp2
  go_ret
  exact ⟨by first | rfl | (simp; done) | (simp [*]; done), by repeat (first | exact Drawn0.refl _ | apply Drawn0.step)⟩
 ·rw [if_neg c2] at H
  exact absurd H (by simp)

theorem offcutref02_Below.sem (z : Int) : offcutref02_Below.f (Zn.tz z) = some (decide (z < 0)) := by
 unfold offcutref02_Below.f
 have := Zn.tz_size_pos z
 rw [if_pos (by omega)]
 congr 1
 by_cases h : z < 0
 ·rw [decide_eq_true h, (Zn.tz_head z).2 h]
  rfl
 ·rw [decide_eq_false h]
  exact beq_eq_false_iff_ne.2 (fun e => h ((Zn.tz_head z).1 e))
set_option synthInstance.checkSynthOrder false in
open Lin in
instance offcutref02_Below.t {a0 : ByteArray} {r : Bool} [h : Ans (offcutref02_Below.f a0) r] : Tl Try.prog 79 [.one (.val (.string a0))] (.el (.one (.val (.bool r)))) := ⟨Tells.of Try.func79 fun out w vs ho hl hv => by
 obtain ⟨u0, rfl, h0⟩ := args1 hl hv
 obtain rfl := h0.1
 refine (offcutref02_Below.calls a0 _ w h.out).mono ?_
 rintro e w' ⟨rfl, hb⟩
 exact ⟨_, rfl, ⟨rfl, rfl⟩, below_of_drawn hb⟩⟩
def offcutref01_sign.f (a0 : Int) : Option (ByteArray) := if 0 ≤ a0 then (if a0 ≤ (wrap64 (a0 + 1)) then (if (wrap64 (a0 + 1)) ≤ 10 then (some ((⟨#[48, 49, 50, 51, 52, 53, 54, 55, 56, 57]⟩ : ByteArray).extract (a0 : Int).toNat ((wrap64 (a0 + 1)) : Int).toNat)) else (none)) else (none)) else (none)
set_option maxHeartbeats 8000000 in
set_option maxRecDepth 100000 in
theorem offcutref01_sign.calls (a0 : Int) (r : ByteArray) (w : World) (h : offcutref01_sign.f a0 = some r) :
  Calls Try.prog 87 #[.int .i64 a0] w fun e w' => e = .returned (.string r) ∧ Drawn0 w w' := by
 have H : (if 0 ≤ a0 then (if a0 ≤ (wrap64 (a0 + 1)) then (if (wrap64 (a0 + 1)) ≤ 10 then (some ((⟨#[48, 49, 50, 51, 52, 53, 54, 55, 56, 57]⟩ : ByteArray).extract (a0 : Int).toNat ((wrap64 (a0 + 1)) : Int).toNat)) else (none)) else (none)) else (none)) = some r := h
 clear h
 by_cases c2 : 0 ≤ a0
 ·rw [if_pos c2] at H
  have c2b0 := eq_true c2
  have c2b1 : decide (0 ≤ a0) = true := decide_eq_true c2
  clear c2
  by_cases c3 : a0 ≤ (wrap64 (a0 + 1))
  ·rw [if_pos c3] at H
   have c3b0 := eq_true c3
   have c3b1 : decide (a0 ≤ (wrap64 (a0 + 1))) = true := decide_eq_true c3
   by_cases c4 : (wrap64 (a0 + 1)) ≤ 10
   ·rw [if_pos c4] at H
    have c4b0 := eq_true c4
    have c4b1 : decide ((wrap64 (a0 + 1)) ≤ 10) = true := decide_eq_true c4
    obtain rfl := Option.some.inj H
    go_enter Try.func87, Try.ntmps87
    go_wp2
    go_ret
    exact ⟨by first | rfl | (simp; done) | (simp [*]; done), by repeat (first | exact Drawn0.refl _ | apply Drawn0.step)⟩
   ·rw [if_neg c4] at H
    exact absurd H (by simp)
  ·rw [if_neg c3] at H
   exact absurd H (by simp)
 ·rw [if_neg c2] at H
  exact absurd H (by simp)

theorem offcutref01_sign.sem (d : Nat) (h : d < 10) : offcutref01_sign.f (d : Int) = some (Dec.tx [d]) := by
 have : d = 0 ∨ d = 1 ∨ d = 2 ∨ d = 3 ∨ d = 4 ∨ d = 5 ∨ d = 6 ∨ d = 7 ∨ d = 8 ∨ d = 9 := by omega
 unfold offcutref01_sign.f
 rw [if_pos (by omega), Dec.w64s _ (by omega), if_pos (by omega), if_pos (by omega), Int.toNat_natCast, Int.toNat_natCast]
 show some ((ByteArray.mk (([48, 49, 50, 51, 52, 53, 54, 55, 56, 57] : List UInt8).toArray)).extract d (d + 1)) = _
 rw [ByteArray.extract_mk]
 rcases this with rfl | rfl | rfl | rfl | rfl | rfl | rfl | rfl | rfl | rfl <;> rfl
def offcutref01_cut.l0 : Nat → ByteArray → Option (ByteArray)
 | 0, _ => none
 | k + 1, x0 => if (x0.size : Int) > 1 then (if 0 < (x0.size : Int) then (if (bt x0 0) = 48 then (if 1 ≤ (x0.size : Int) then (offcutref01_cut.l0 k (x0.extract 1 x0.size)) else (none)) else (if x0.toList = ([] : List UInt8) then (some (⟨#[48]⟩ : ByteArray)) else (some x0))) else (none)) else (if x0.toList = ([] : List UInt8) then (some (⟨#[48]⟩ : ByteArray)) else (some x0))
def offcutref01_cut.f (k : Nat) (a0 : ByteArray) : Option (ByteArray) := offcutref01_cut.l0 k a0
set_option maxHeartbeats 8000000 in
set_option maxRecDepth 100000 in
theorem offcutref01_cut.calls (k : Nat) (a0 : ByteArray) (r : ByteArray) (w : World) (h : offcutref01_cut.f k a0 = some r) :
  Calls Try.prog 88 #[.string a0] w fun e w' => e = .returned (.string r) ∧ Drawn0 w w' := by
 have H : (offcutref01_cut.l0 k a0) = some r := h
 clear h
 have H' := Aside0.mk H
 clear H
 go_enter Try.func88, Try.ntmps88
 go_wp2
 go_loopg [0] k (fun kq v0 w' => ∃ (x0_1 : ByteArray), v0 = .string x0_1 ∧ Aside0 (offcutref01_cut.l0 kq x0_1 = some r) ∧ Aside0 (kq ≤ k) ∧ Drawn0 w w')
 case atStart => exact ⟨(a0), (by first | rfl | (simp; done) | (simp [*]; done)), H', ⟨Nat.le_refl _⟩, by repeat (first | exact Drawn0.refl _ | apply Drawn0.step)⟩
 case round =>
  clear H'
  obtain ⟨x0_1, rfl, HA, HK1, ⟨m1, rfl⟩⟩ := hrel
  cases gk with
  | zero => exact absurd HA.out (by simp [offcutref01_cut.l0])
  | succ k1 =>
   have H := HA.out
   clear HA
   simp only [offcutref01_cut.l0] at H
   by_cases c2 : (x0_1.size : Int) > 1
   ·rw [if_pos c2] at H
    have c2b0 : decide (1 < (x0_1.size : Int)) = true := decide_eq_true c2
    have c2b1 : decide (1 < x0_1.size) = true := decide_eq_true (by omega)
    clear c2
    by_cases c3 : 0 < (x0_1.size : Int)
    ·rw [if_pos c3] at H
     have c3b0 : decide (0 < (x0_1.size : Int)) = true := decide_eq_true c3
     have c3b1 : decide (0 < x0_1.size) = true := decide_eq_true (by omega)
     clear c3
     by_cases c5 : (bt x0_1 0) = 48
     ·rw [if_pos c5] at H
      have c5b0 : ((bt x0_1 0) == 48) = true := beq_iff_eq.mpr c5
      have c5b1 : ((bt x0_1 0) != 48) = false := bne_eq_false_iff_eq.mpr c5
      clear c5
      by_cases c6 : 1 ≤ (x0_1.size : Int)
      ·rw [if_pos c6] at H
       have c6b0 := eq_true c6
       have c6b1 : decide (1 ≤ (x0_1.size : Int)) = true := decide_eq_true c6
       clear c6
       have H' := Aside0.mk H
       clear H
       have p4 : 0 ≤ (0 : Int) := (by omega)
       have q4 : 0 < x0_1.size := (by have : (0 : Int) < (x0_1.size : Int) := of_decide_eq_true (by first | (with_reducible assumption) | assumption); omega)
       have hx4 : ∀ h : 0 < x0_1.size, ((x0_1[0]'h).toNat : Int) = bt x0_1 0 := bt_at x0_1 0
       clear p4
       have qi4 : (0 < (x0_1.size : Int)) = True := eq_true (of_decide_eq_true (by first | (with_reducible assumption) | assumption))
       replace q4 := eq_true q4
       go_wp2
       go_roundg k1
       case measure => have := HK1.out; omega
       case rel => exact ⟨(x0_1.extract 1 x0_1.size), (by first | rfl | (simp; done) | (simp [*]; done)), H', ⟨by have := HK1.out; omega⟩, by repeat (first | exact Drawn0.refl _ | apply Drawn0.step)⟩
      ·rw [if_neg c6] at H
       exact absurd H (by simp)
     ·rw [if_neg c5] at H
      have c5b0 : ((bt x0_1 0) == 48) = false := beq_eq_false_iff_ne.mpr c5
      have c5b1 : ((bt x0_1 0) != 48) = true := bne_iff_ne.mpr c5
      by_cases c7 : x0_1.toList = ([] : List UInt8)
      ·rw [if_pos c7] at H
       have c7b0 : (x0_1.toList == ([] : List UInt8)) = true := beq_iff_eq.mpr c7
       have c7b1 : (x0_1.toList != ([] : List UInt8)) = false := bne_eq_false_iff_eq.mpr c7
       clear c7
       obtain rfl := Option.some.inj H
       have p4 : 0 ≤ (0 : Int) := (by omega)
       have q4 : 0 < x0_1.size := (by have : (0 : Int) < (x0_1.size : Int) := of_decide_eq_true (by first | (with_reducible assumption) | assumption); omega)
       have hx4 : ∀ h : 0 < x0_1.size, ((x0_1[0]'h).toNat : Int) = bt x0_1 0 := bt_at x0_1 0
       clear p4
       have qi4 : (0 < (x0_1.size : Int)) = True := eq_true (of_decide_eq_true (by first | (with_reducible assumption) | assumption))
       replace q4 := eq_true q4
       go_wp2
       go_ret
       exact ⟨by first | rfl | (simp; done) | (simp [*]; done), by repeat (first | exact Drawn0.refl _ | apply Drawn0.step)⟩
      ·rw [if_neg c7] at H
       have c7b0 : (x0_1.toList == ([] : List UInt8)) = false := beq_eq_false_iff_ne.mpr c7
       have c7b1 : (x0_1.toList != ([] : List UInt8)) = true := bne_iff_ne.mpr c7
       obtain rfl := Option.some.inj H
       have p4 : 0 ≤ (0 : Int) := (by omega)
       have q4 : 0 < x0_1.size := (by have : (0 : Int) < (x0_1.size : Int) := of_decide_eq_true (by first | (with_reducible assumption) | assumption); omega)
       have hx4 : ∀ h : 0 < x0_1.size, ((x0_1[0]'h).toNat : Int) = bt x0_1 0 := bt_at x0_1 0
       clear p4
       have qi4 : (0 < (x0_1.size : Int)) = True := eq_true (of_decide_eq_true (by first | (with_reducible assumption) | assumption))
       replace q4 := eq_true q4
       go_wp2
       go_ret
       exact ⟨by first | rfl | (simp; done) | (simp [*]; done), by repeat (first | exact Drawn0.refl _ | apply Drawn0.step)⟩
    ·rw [if_neg c3] at H
     exact absurd H (by simp)
   ·rw [if_neg c2] at H
    have c2b0 : decide (1 < (x0_1.size : Int)) = false := decide_eq_false c2
    have c2b1 : decide (1 < x0_1.size) = false := decide_eq_false (by omega)
    clear c2
    by_cases c8 : x0_1.toList = ([] : List UInt8)
    ·rw [if_pos c8] at H
     have c8b0 : (x0_1.toList == ([] : List UInt8)) = true := beq_iff_eq.mpr c8
     have c8b1 : (x0_1.toList != ([] : List UInt8)) = false := bne_eq_false_iff_eq.mpr c8
     clear c8
     obtain rfl := Option.some.inj H
     go_wp2
     go_ret
     exact ⟨by first | rfl | (simp; done) | (simp [*]; done), by repeat (first | exact Drawn0.refl _ | apply Drawn0.step)⟩
    ·rw [if_neg c8] at H
     have c8b0 : (x0_1.toList == ([] : List UInt8)) = false := beq_eq_false_iff_ne.mpr c8
     have c8b1 : (x0_1.toList != ([] : List UInt8)) = true := bne_iff_ne.mpr c8
     obtain rfl := Option.some.inj H
     go_wp2
     go_ret
     exact ⟨by first | rfl | (simp; done) | (simp [*]; done), by repeat (first | exact Drawn0.refl _ | apply Drawn0.step)⟩

theorem offcutref01_cut.ev_n (n : Nat) : ∀ {l : List Nat}, l.length = n → Dec.Ds l → Ev (fun k => offcutref01_cut.f k (Dec.tx l)) (Dec.dec (Dec.dv l)) := by
 induction n with
 | zero =>
  intro l hl h
  obtain rfl : l = [] := List.eq_nil_of_length_eq_zero hl
  refine Ev.step (f := fun _ => some (Dec.dec (Dec.dv []))) (fun k => ?_) (Ev.now _)
  show offcutref01_cut.l0 (k + 1) _ = _
  rw [offcutref01_cut.l0, Dec.tx_size, if_neg (by simp), if_pos (by rw [Dec.tx_toList]; rfl), ← Dec.dec_zero]
  rfl
 | succ n ih =>
  intro l hl h
  rcases List.eq_nil_or_concat l with rfl | ⟨l', d, rfl⟩
  ·simp at hl
  ·rw [List.concat_eq_append] at hl h ⊢
   have hd : d < 10 := h.right.head
   have hn : l'.length = n := by simpa using hl
   have hnn : (Dec.tx (l' ++ [d])).toList ≠ [] := by rw [Dec.tx_toList]; simp
   have hbt := Dec.bt_tx h 0 (by simp)
   rw [show (l' ++ [d]).length - 1 - 0 = l'.length from by simp] at hbt
   rw [show (l' ++ [d]).getD l'.length 0 = d from by simp] at hbt
   by_cases h0 : n = 0
   ·obtain rfl : l' = [] := List.eq_nil_of_length_eq_zero (by omega)
    refine Ev.step (f := fun _ => some (Dec.tx ([] ++ [d]))) (fun k => ?_) ?_
    ·show offcutref01_cut.l0 (k + 1) _ = _
     rw [offcutref01_cut.l0, Dec.tx_size, if_neg (by simp), if_neg hnn]
    ·by_cases hd0 : d = 0
     ·subst hd0
      exact Ev.now _
     ·unfold Dec.dec
      rw [Dec.dc_snoc Dec.Ds.nil hd hd0]
      exact Ev.now _
   ·by_cases hd0 : d = 0
    ·subst hd0
     refine Ev.step (f := fun k => offcutref01_cut.f k (Dec.tx l')) (fun k => ?_) ?_
     ·show offcutref01_cut.l0 (k + 1) _ = offcutref01_cut.l0 k _
      rw [offcutref01_cut.l0, Dec.tx_tail, Dec.tx_size, if_pos (by simp <;> omega), if_pos (by simp <;> omega), if_pos (by rw [← Int.natCast_zero, hbt] <;> rfl), if_pos (by simp <;> omega)]
     ·rw [Dec.dv_snoc, Nat.mul_zero, Nat.add_zero]
      exact ih hn h.left
    ·refine Ev.step (f := fun _ => some (Dec.tx (l' ++ [d]))) (fun k => ?_) ?_
     ·show offcutref01_cut.l0 (k + 1) _ = _
      rw [offcutref01_cut.l0, Dec.tx_size, if_pos (by simp <;> omega), if_pos (by simp <;> omega), if_neg (by rw [← Int.natCast_zero, hbt] <;> omega), if_neg hnn]
     ·unfold Dec.dec
      rw [Dec.dc_snoc h.left hd hd0]
      exact Ev.now _
theorem offcutref01_cut.ev {l : List Nat} (h : Dec.Ds l) : Ev (fun k => offcutref01_cut.f k (Dec.tx l)) (Dec.dec (Dec.dv l)) := offcutref01_cut.ev_n _ rfl h
def offcutref01_Less.f (a0 : ByteArray) (a1 : ByteArray) : Option (Bool) := if (a0.size : Int) = (a1.size : Int) then (some (Op.bytesLess a0.toList a1.toList)) else (some (decide ((a0.size : Int) < (a1.size : Int))))
set_option maxHeartbeats 8000000 in
set_option maxRecDepth 100000 in
theorem offcutref01_Less.calls (a0 : ByteArray) (a1 : ByteArray) (r : Bool) (w : World) (h : offcutref01_Less.f a0 a1 = some r) :
  Calls Try.prog 99 #[.string a0, .string a1] w fun e w' => e = .returned (.bool r) ∧ Drawn0 w w' := by
 have H : (if (a0.size : Int) = (a1.size : Int) then (some (Op.bytesLess a0.toList a1.toList)) else (some (decide ((a0.size : Int) < (a1.size : Int))))) = some r := h
 clear h
 by_cases c3 : (a0.size : Int) = (a1.size : Int)
 ·rw [if_pos c3] at H
  have c3b0 : ((a0.size : Int) == (a1.size : Int)) = true := beq_iff_eq.mpr c3
  have c3b1 : ((a0.size : Int) != (a1.size : Int)) = false := bne_eq_false_iff_eq.mpr c3
  have c3b2 : (a0.size == a1.size) = true := by first | simpa using c3 | (simp at c3 ⊢; omega)
  clear c3
  obtain rfl := Option.some.inj H
  go_enter Try.func99, Try.ntmps99
  go_wp2
  go_ret
  exact ⟨by first | rfl | (simp; done) | (simp [*]; done), by repeat (first | exact Drawn0.refl _ | apply Drawn0.step)⟩
 ·rw [if_neg c3] at H
  have c3b0 : ((a0.size : Int) == (a1.size : Int)) = false := beq_eq_false_iff_ne.mpr c3
  have c3b1 : ((a0.size : Int) != (a1.size : Int)) = true := bne_iff_ne.mpr c3
  have c3b2 : (a0.size == a1.size) = false := by first | simpa using c3 | (simp at c3 ⊢; omega)
  obtain rfl := Option.some.inj H
  go_enter Try.func99, Try.ntmps99
  go_wp2
  go_ret
  exact ⟨by first | rfl | (simp; done) | (simp [*]; done), by repeat (first | exact Drawn0.refl _ | apply Drawn0.step)⟩

theorem offcutref01_Less.sem (m n : Nat) : offcutref01_Less.f (Dec.dec m) (Dec.dec n) = some (decide (m < n)) := by
 unfold offcutref01_Less.f
 by_cases h : (Dec.dec m).size = (Dec.dec n).size
 ·rw [if_pos (by omega), Dec.less_dec m n h]
 ·rw [if_neg (by omega)]
  congr 1
  unfold Dec.dec at h ⊢
  rw [Dec.tx_size, Dec.tx_size] at h ⊢
  rcases Nat.lt_or_ge (Dec.dc m).length (Dec.dc n).length with h1 | h1
  ·rw [decide_eq_true (Dec.dc_len_lt h1), decide_eq_true (by omega)]
  ·have := Dec.dc_len_lt (m := n) (n := m) (by omega)
   rw [decide_eq_false (by omega), decide_eq_false (by omega)]
set_option synthInstance.checkSynthOrder false in
open Lin in
instance offcutref01_Less.t {a0 : ByteArray} {a1 : ByteArray} {r : Bool} [h : Ans (offcutref01_Less.f a0 a1) r] : Tl Try.prog 99 [.one (.val (.string a0)), .one (.val (.string a1))] (.el (.one (.val (.bool r)))) := ⟨Tells.of Try.func99 fun out w vs ho hl hv => by
 obtain ⟨u0, u1, rfl, h0, h1⟩ := args2 hl hv
 obtain rfl := h0.1
 obtain rfl := h1.1
 refine (offcutref01_Less.calls a0 a1 _ w h.out).mono ?_
 rintro e w' ⟨rfl, hb⟩
 exact ⟨_, rfl, ⟨rfl, rfl⟩, below_of_drawn hb⟩⟩
def offcutref01_at.f (a0 : ByteArray) (a1 : Int) : Option (Int) := if a1 < (a0.size : Int) then (if 0 ≤ (wrap64 ((wrap64 ((a0.size : Int) - 1)) - a1)) then (if (wrap64 ((wrap64 ((a0.size : Int) - 1)) - a1)) < (a0.size : Int) then (some (((bt a0 (wrap64 ((wrap64 ((a0.size : Int) - 1)) - a1))) - 48) % 256)) else (none)) else (none)) else (some 0)
set_option maxHeartbeats 8000000 in
set_option maxRecDepth 100000 in
theorem offcutref01_at.calls (a0 : ByteArray) (a1 : Int) (r : Int) (w : World) (h : offcutref01_at.f a0 a1 = some r) :
  Calls Try.prog 101 #[.string a0, .int .i64 a1] w fun e w' => e = .returned (.int .i64 r) ∧ Drawn0 w w' := by
 have H : (if a1 < (a0.size : Int) then (if 0 ≤ (wrap64 ((wrap64 ((a0.size : Int) - 1)) - a1)) then (if (wrap64 ((wrap64 ((a0.size : Int) - 1)) - a1)) < (a0.size : Int) then (some (((bt a0 (wrap64 ((wrap64 ((a0.size : Int) - 1)) - a1))) - 48) % 256)) else (none)) else (none)) else (some 0)) = some r := h
 clear h
 by_cases c3 : a1 < (a0.size : Int)
 ·rw [if_pos c3] at H
  have c3b0 : decide (a1 < (a0.size : Int)) = true := decide_eq_true c3
  clear c3
  obtain ⟨ji4, hji4⟩ : ∃ j_ : Int, (wrap64 ((wrap64 ((a0.size : Int) - 1)) - a1)) = j_ := ⟨_, rfl⟩
  replace H : (if 0 ≤ (ji4) then (if (ji4) < (a0.size : Int) then (some (((bt a0 (ji4)) - 48) % 256)) else (none)) else (none)) = some r := by first | (rw [hji4] at H; exact H) | (simp only [hji4] at H ⊢; exact H)
  have hji4w : (IntKind.i64.wrap ((wrap64 ((a0.size : Int) - 1)) - a1)) = ji4 := (i64_w _).trans hji4
  by_cases c5 : 0 ≤ (ji4)
  ·rw [if_pos c5] at H
   have c5b0 : decide (0 ≤ (ji4)) = true := decide_eq_true c5
   clear c5
   by_cases c6 : (ji4) < (a0.size : Int)
   ·rw [if_pos c6] at H
    have c6b0 : decide ((ji4) < (a0.size : Int)) = true := decide_eq_true c6
    clear c6
    obtain rfl := Option.some.inj H
    have p7 : 0 ≤ ((ji4) : Int) := of_decide_eq_true (by first | (with_reducible assumption) | assumption)
    have q7 : (ji4) < (a0.size : Int) := of_decide_eq_true (by first | (with_reducible assumption) | assumption)
    have hx7 := bt_at a0 (ji4)
    replace p7 := eq_true p7
    replace q7 := eq_true q7
    go_enter Try.func101, Try.ntmps101
    go_wp2
    go_ret
    exact ⟨by first | rfl | (simp; done) | (simp only [← hji4] <;> (first | rfl | simp)) | (simp [*]; done), by repeat (first | exact Drawn0.refl _ | apply Drawn0.step)⟩
   ·rw [if_neg c6] at H
    exact absurd H (by simp)
  ·rw [if_neg c5] at H
   exact absurd H (by simp)
 ·rw [if_neg c3] at H
  have c3b0 : decide (a1 < (a0.size : Int)) = false := decide_eq_false c3
  clear c3
  obtain rfl := Option.some.inj H
  go_enter Try.func101, Try.ntmps101
  go_wp2
  go_ret
  exact ⟨by first | rfl | (simp; done) | (simp [*]; done), by repeat (first | exact Drawn0.refl _ | apply Drawn0.step)⟩

theorem offcutref01_at.sem {l : List Nat} (h : Dec.Ds l) (hl : l.length < 9223372036854775807) (i : Nat) : offcutref01_at.f (Dec.tx l) (i : Int) = some ((l.getD i 0 : Nat) : Int) := by
 unfold offcutref01_at.f
 rw [Dec.tx_size]
 by_cases hi : i < l.length
 ·rw [if_pos (by omega), Dec.w64p _ (by omega) (by omega), Dec.w64d _ _ (by omega) (by omega), if_pos (by omega), if_pos (by omega), Dec.bt_tx h _ (by omega)]
  have := h.getD i
  rw [show l.length - 1 - (l.length - 1 - i) = i from by omega]
  congr 1
  omega
 ·rw [if_neg (by omega), List.getD_eq_getElem?_getD, List.getElem?_eq_none (by omega)]
  rfl
def offcutref01_Sub.l0 : Nat → ByteArray → ByteArray → ByteArray → Int → Int → Option (ByteArray)
 | 0, _, _, _, _, _ => none
 | k + 1, x0, x1, x5, x6, x7 => if x7 < (x0.size : Int) then ((offcutref01_at.f x0 x7).bind fun t456 => ((offcutref01_at.f x1 x7).bind fun t457 => ((offcutref01_sign.f (Int.tmod (wrap64 ((wrap64 ((wrap64 (t456 - t457)) - x6)) + 10)) 10)).bind fun t458 => (if t458.size + x5.size ≤ 9223372036854775807 then (offcutref01_Sub.l0 k x0 x1 (t458 ++ x5) (wrap64 (1 - (wrap64 (Int.tdiv (wrap64 ((wrap64 ((wrap64 (t456 - t457)) - x6)) + 10)) 10)))) (wrap64 (x7 + 1))) else (none))))) else ((offcutref01_cut.f k x5).bind fun t459 => (some t459))
def offcutref01_Sub.f (k : Nat) (a0 : ByteArray) (a1 : ByteArray) : Option (ByteArray) := offcutref01_Sub.l0 k a0 a1 (⟨#[]⟩ : ByteArray) 0 0
set_option maxHeartbeats 8000000 in
set_option maxRecDepth 100000 in
theorem offcutref01_Sub.calls (k : Nat) (a0 : ByteArray) (a1 : ByteArray) (r : ByteArray) (w : World) (h : offcutref01_Sub.f k a0 a1 = some r) :
  Calls Try.prog 100 #[.string a0, .string a1] w fun e w' => e = .returned (.string r) ∧ Drawn0 w w' := by
 have H : (offcutref01_Sub.l0 k a0 a1 (⟨#[]⟩ : ByteArray) 0 0) = some r := h
 clear h
 have H' := Aside0.mk H
 clear H
 go_enter Try.func100, Try.ntmps100
 go_wp2
 go_loopg [5, 6, 7] k (fun kq v5 v6 v7 w' => ∃ (x5_1 : ByteArray) (x6_1 : Int) (x7_1 : Int), v5 = .string x5_1 ∧ v6 = .int .i64 x6_1 ∧ v7 = .int .i64 x7_1 ∧ Aside0 (offcutref01_Sub.l0 kq a0 a1 x5_1 x6_1 x7_1 = some r) ∧ Aside0 (kq ≤ k) ∧ Drawn0 w w')
 case atStart => exact ⟨((⟨#[]⟩ : ByteArray)), (0), (0), (by first | rfl | (simp; done) | (simp [*]; done)), (by first | rfl | (simp; done) | (simp [*]; done)), (by first | rfl | (simp; done) | (simp [*]; done)), H', ⟨Nat.le_refl _⟩, by repeat (first | exact Drawn0.refl _ | apply Drawn0.step)⟩
 case round =>
  clear H'
  try clear c1
  try clear p2
  obtain ⟨x5_1, x6_1, x7_1, rfl, rfl, rfl, HA, HK1, ⟨m1, rfl⟩⟩ := hrel
  cases gk with
  | zero => exact absurd HA.out (by simp [offcutref01_Sub.l0])
  | succ k1 =>
   have H := HA.out
   clear HA
   simp only [offcutref01_Sub.l0] at H
   by_cases c3 : x7_1 < (a0.size : Int)
   ·rw [if_pos c3] at H
    have c3b0 : decide (x7_1 < (a0.size : Int)) = true := decide_eq_true c3
    clear c3
    replace H := Option.bind_eq_some_iff.mp H
    obtain ⟨t456, A40, H⟩ := H
    try dsimp only at H
    have A4 := Aside0.mk A40
    clear A40
    replace H := Option.bind_eq_some_iff.mp H
    obtain ⟨t457, A50, H⟩ := H
    try dsimp only at H
    have A5 := Aside0.mk A50
    clear A50
    replace H := Option.bind_eq_some_iff.mp H
    obtain ⟨t458, A60, H⟩ := H
    try dsimp only at H
    have A6 := Aside0.mk A60
    clear A60
    by_cases c7 : t458.size + x5_1.size ≤ 9223372036854775807
    ·rw [if_pos c7] at H
     have c7b0 := eq_true c7
     have c7b1 : decide (t458.size + x5_1.size ≤ 9223372036854775807) = true := decide_eq_true c7
     try have c7b2 : (9223372036854775807 < t458.size + x5_1.size) = False := eq_false (Nat.not_lt.2 c7)
     have H' := Aside0.mk H
     clear H
     go_wp2_with (first | ((with_reducible refine gate_callee (f := 101) rfl ?_); refine Short.goesS_ (some 17) Try.func101 #[.string a0, .int .i64 x7_1] ?_; (with_reducible refine (offcutref01_at.calls a0 x7_1 t456 _ A4.out).mono ?_); rintro e w' ⟨rfl, ⟨nd, rfl⟩⟩; refine ⟨_, rfl, ?_⟩) | ((with_reducible refine gate_callee (f := 101) rfl ?_); refine Short.goesS_ (some 20) Try.func101 #[.string a1, .int .i64 x7_1] ?_; (with_reducible refine (offcutref01_at.calls a1 x7_1 t457 _ A5.out).mono ?_); rintro e w' ⟨rfl, ⟨nd, rfl⟩⟩; refine ⟨_, rfl, ?_⟩) | ((with_reducible refine gate_callee (f := 87) rfl ?_); refine Short.goesS_ (some 27) Try.func87 #[.int .i64 (Int.tmod (wrap64 ((wrap64 ((wrap64 (t456 - t457)) - x6_1)) + 10)) 10)] ?_; (with_reducible refine (offcutref01_sign.calls (Int.tmod (wrap64 ((wrap64 ((wrap64 (t456 - t457)) - x6_1)) + 10)) 10) t458 _ A6.out).mono ?_); rintro e w' ⟨rfl, ⟨nd, rfl⟩⟩; refine ⟨_, rfl, ?_⟩))
     go_roundg k1
     case measure => have := HK1.out; omega
     case rel => exact ⟨(t458 ++ x5_1), (wrap64 (1 - (wrap64 (Int.tdiv (wrap64 ((wrap64 ((wrap64 (t456 - t457)) - x6_1)) + 10)) 10)))), (wrap64 (x7_1 + 1)), (by first | rfl | (simp; done) | (simp [*]; done)), (by first | rfl | (simp; done) | (simp [*]; done)), (by first | rfl | (simp; done) | (simp [*]; done)), H', ⟨by have := HK1.out; omega⟩, by repeat (first | exact Drawn0.refl _ | apply Drawn0.step)⟩
    ·rw [if_neg c7] at H
     exact absurd H (by simp)
   ·rw [if_neg c3] at H
    have c3b0 : decide (x7_1 < (a0.size : Int)) = false := decide_eq_false c3
    clear c3
    replace H := Option.bind_eq_some_iff.mp H
    obtain ⟨t459, A80, H⟩ := H
    replace H : (some t459) = some r := H
    have A8 := Aside0.mk A80
    clear A80
    obtain rfl := Option.some.inj H
    go_wp2_with (first | ((with_reducible refine gate_callee (f := 88) rfl ?_); refine Short.goesS_ (some 34) Try.func88 #[.string x5_1] ?_; (with_reducible refine (offcutref01_cut.calls k1 x5_1 t459 _ A8.out).mono ?_); rintro e w' ⟨rfl, ⟨nd, rfl⟩⟩; refine ⟨_, rfl, ?_⟩))
    go_ret
    exact ⟨by first | rfl | (simp; done) | (simp [*]; done), by repeat (first | exact Drawn0.refl _ | apply Drawn0.step)⟩

theorem offcutref01_Sub.ev_l {a b : List Nat} (ha : Dec.Ds a) (hb : Dec.Ds b) (la : a.length < 1000000000) (lb : b.length ≤ a.length) (hba : Dec.dv b ≤ Dec.dv a) (d : Nat) : ∀ (out : List Nat) (c : Nat), out.length + d = a.length → Dec.Ds out → c ≤ 1 →
  Dec.dv (a.take out.length) + 10 ^ out.length * c = Dec.dv out + Dec.dv (b.take out.length) → Ev (fun k => offcutref01_Sub.l0 k (Dec.tx a) (Dec.tx b) (Dec.tx out) (c : Int) (out.length : Int)) (Dec.dec (Dec.dv a - Dec.dv b)) := by
 induction d with
 | zero =>
  intro out c hd ho hc hv
  have h1 := Dec.dv_lt ho
  rw [List.take_of_length_le (by omega), List.take_of_length_le (by omega)] at hv
  have hvv : Dec.dv out = Dec.dv a - Dec.dv b := by
   rcases Nat.eq_zero_or_pos c with h | h
   ·subst h; omega
   ·obtain rfl : c = 1 := by omega
    omega
  refine Ev.step (f := fun k => (offcutref01_cut.f k (Dec.tx out)).bind fun t => some t) (fun k => ?_) ?_
  ·rw [offcutref01_Sub.l0, Dec.tx_size, if_neg (by omega)]
  ·rw [← hvv]
   exact Ev.bind (offcutref01_cut.ev ho) (Ev.now _)
 | succ d ih =>
  intro out c hd ho hc hv
  have h1 := ha.getD out.length
  have h2 := hb.getD out.length
  obtain ⟨p, hp⟩ : ∃ p, p = a.getD out.length 0 := ⟨_, rfl⟩
  obtain ⟨q, hq⟩ : ∃ q, q = b.getD out.length 0 := ⟨_, rfl⟩
  rw [← hp] at h1
  rw [← hq] at h2
  obtain ⟨n, hn⟩ : ∃ n, n = p + 10 - q - c := ⟨_, rfl⟩
  have e1 : wrap64 ((wrap64 ((wrap64 ((p : Int) - (q : Int))) - (c : Int))) + 10) = (n : Int) := by
   rw [Dec.w64 (n := (p : Int) - (q : Int)) (by omega) (by omega), Dec.w64 (n := (p : Int) - (q : Int) - (c : Int)) (by omega) (by omega), Dec.w64 (by omega) (by omega)]
   omega
  have e2 : wrap64 (1 - ((n / 10 : Nat) : Int)) = ((1 - n / 10 : Nat) : Int) := by
   rw [Dec.w64 (by omega) (by omega)]
   omega
  refine Ev.step (f := fun k => offcutref01_Sub.l0 k (Dec.tx a) (Dec.tx b) (Dec.tx (out ++ [n % 10])) ((1 - n / 10 : Nat) : Int) ((out.length + 1 : Nat) : Int)) (fun k => ?_) ?_
  ·rw [offcutref01_Sub.l0, Dec.tx_size, if_pos (by omega), offcutref01_at.sem ha (by omega), offcutref01_at.sem hb (by omega), ← hp, ← hq, Option.bind_some, Option.bind_some, e1, Dec.tmod10, Dec.tdiv10, offcutref01_sign.sem _ (Nat.mod_lt _ (by omega)), Option.bind_some, Dec.tx_append, Dec.tx_size, Dec.tx_size, if_pos (by rw [List.length_singleton]; omega), Dec.w64n _ (by omega), e2, Dec.w64s _ (by omega)]
  ·have := ih (out ++ [n % 10]) (1 - n / 10) (by rw [List.length_append, List.length_singleton]; omega) (ho.snoc (Nat.mod_lt _ (by omega))) (by omega) (by
    rw [List.length_append, List.length_singleton, Dec.dv_take_succ, Dec.dv_take_succ, ← hp, ← hq, Dec.dv_snoc, Nat.pow_succ]
    have h3 : 10 ^ out.length * (p + 10 * (1 - n / 10)) = 10 ^ out.length * (n % 10 + q + c) := by congr 1; omega
    rw [Nat.mul_add, Nat.mul_add, Nat.mul_add, ← Nat.mul_assoc] at h3
    omega)
   rw [List.length_append, List.length_singleton] at this
   exact this
theorem offcutref01_Sub.ev {a b : List Nat} (ha : Dec.Ds a) (hb : Dec.Ds b) (la : a.length < 1000000000) (lb : b.length ≤ a.length) (hba : Dec.dv b ≤ Dec.dv a) : Ev (fun k => offcutref01_Sub.f k (Dec.tx a) (Dec.tx b)) (Dec.dec (Dec.dv a - Dec.dv b)) :=
 offcutref01_Sub.ev_l ha hb la lb hba a.length [] 0 (by rw [List.length_nil]; omega) Dec.Ds.nil (by omega) (by rw [List.length_nil, List.take_zero, List.take_zero]; rfl)
theorem offcutref01_Sub.ev_dec {m n : Nat} (h : n ≤ m) (hl : (Dec.dc m).length < 1000000000) : Ev (fun k => offcutref01_Sub.f k (Dec.dec m) (Dec.dec n)) (Dec.dec (m - n)) := by
 have hlen : (Dec.dc n).length ≤ (Dec.dc m).length := by
  rcases Nat.lt_or_ge (Dec.dc m).length (Dec.dc n).length with h1 | h1
  ·have := Dec.dc_len_lt h1
   omega
  ·exact h1
 have := offcutref01_Sub.ev (Dec.Ds_dc m) (Dec.Ds_dc n) hl hlen (by rw [Dec.dv_dc, Dec.dv_dc]; exact h)
 rw [Dec.dv_dc, Dec.dv_dc] at this
 exact this
set_option synthInstance.checkSynthOrder false in
open Lin in
instance offcutref01_Sub.t {k : Nat} {a0 : ByteArray} {a1 : ByteArray} {r : ByteArray} [h : Ans (offcutref01_Sub.f k a0 a1) r] : Tl Try.prog 100 [.one (.val (.string a0)), .one (.val (.string a1))] (.el (.one (.val (.string r)))) := ⟨Tells.of Try.func100 fun out w vs ho hl hv => by
 obtain ⟨u0, u1, rfl, h0, h1⟩ := args2 hl hv
 obtain rfl := h0.1
 obtain rfl := h1.1
 refine (offcutref01_Sub.calls k a0 a1 _ w h.out).mono ?_
 rintro e w' ⟨rfl, hb⟩
 exact ⟨_, rfl, ⟨rfl, rfl⟩, below_of_drawn hb⟩⟩
mutual
def offcutref01_DivMod.l0 : Nat → ByteArray → ByteArray → ByteArray → ByteArray → Int → Option (ByteArray × ByteArray)
 | 0, _, _, _, _, _ => none
 | k + 1, x0, x1, x6, x7, x8 => if x8 < (x0.size : Int) then (if 0 ≤ x8 then (if x8 ≤ (wrap64 (x8 + 1)) then (if (wrap64 (x8 + 1)) ≤ (x0.size : Int) then (if x7.size + (x0.extract (x8 : Int).toNat ((wrap64 (x8 + 1)) : Int).toNat).size ≤ 9223372036854775807 then ((offcutref01_cut.f k (x7 ++ (x0.extract (x8 : Int).toNat ((wrap64 (x8 + 1)) : Int).toNat))).bind fun t461 => (offcutref01_DivMod.l1 k x0 x1 x6 t461 x8 0)) else (none)) else (none)) else (none)) else (none)) else ((offcutref01_cut.f k x6).bind fun t460 => (some (t460, x7)))
def offcutref01_DivMod.l1 : Nat → ByteArray → ByteArray → ByteArray → ByteArray → Int → Int → Option (ByteArray × ByteArray)
 | 0, _, _, _, _, _, _ => none
 | k + 1, x0, x1, x6, x7, x8, x9 => (offcutref01_Less.f x7 x1).bind fun t462 => (if t462 = true then ((offcutref01_sign.f x9).bind fun t463 => (if x6.size + t463.size ≤ 9223372036854775807 then (offcutref01_DivMod.l0 k x0 x1 (x6 ++ t463) x7 (wrap64 (x8 + 1))) else (none))) else ((offcutref01_Sub.f k x7 x1).bind fun t464 => (offcutref01_DivMod.l1 k x0 x1 x6 t464 x8 (wrap64 (x9 + 1)))))
end
def offcutref01_DivMod.f (k : Nat) (a0 : ByteArray) (a1 : ByteArray) : Option (ByteArray × ByteArray) := offcutref01_DivMod.l0 k a0 a1 (⟨#[]⟩ : ByteArray) (⟨#[48]⟩ : ByteArray) 0
set_option maxHeartbeats 8000000 in
set_option maxRecDepth 100000 in
theorem offcutref01_DivMod.calls (k : Nat) (a0 : ByteArray) (a1 : ByteArray) (r1 : ByteArray) (r2 : ByteArray) (w : World) (h : offcutref01_DivMod.f k a0 a1 = some (r1, r2)) :
  Calls Try.prog 81 #[.string a0, .string a1] w fun e w' => e = .returned (.tuple #[.string r1, .string r2]) ∧ Drawn0 w w' := by
 have H : (offcutref01_DivMod.l0 k a0 a1 (⟨#[]⟩ : ByteArray) (⟨#[48]⟩ : ByteArray) 0) = some (r1, r2) := h
 clear h
 have H' := Aside0.mk H
 clear H
 go_enter Try.func81, Try.ntmps81
 go_wp2
 go_loopg [6, 7, 8] k (fun kq v6 v7 v8 w' => ∃ (x6_1 : ByteArray) (x7_1 : ByteArray) (x8_1 : Int), v6 = .string x6_1 ∧ v7 = .string x7_1 ∧ v8 = .int .i64 x8_1 ∧ Aside0 (offcutref01_DivMod.l0 kq a0 a1 x6_1 x7_1 x8_1 = some (r1, r2)) ∧ Aside0 (kq ≤ k) ∧ Drawn0 w w')
 case atStart => exact ⟨((⟨#[]⟩ : ByteArray)), ((⟨#[48]⟩ : ByteArray)), (0), (by first | rfl | (simp; done) | (simp [*]; done)), (by first | rfl | (simp; done) | (simp [*]; done)), (by first | rfl | (simp; done) | (simp [*]; done)), H', ⟨Nat.le_refl _⟩, by repeat (first | exact Drawn0.refl _ | apply Drawn0.step)⟩
 case round =>
  clear H'
  try clear p2
  obtain ⟨x6_1, x7_1, x8_1, rfl, rfl, rfl, HA, HK1, ⟨m1, rfl⟩⟩ := hrel
  cases gk with
  | zero => exact absurd HA.out (by simp [offcutref01_DivMod.l0])
  | succ k1 =>
   have H := HA.out
   clear HA
   simp only [offcutref01_DivMod.l0] at H
   by_cases c3 : x8_1 < (a0.size : Int)
   ·rw [if_pos c3] at H
    have c3b0 : decide (x8_1 < (a0.size : Int)) = true := decide_eq_true c3
    clear c3
    by_cases c4 : 0 ≤ x8_1
    ·rw [if_pos c4] at H
     have c4b0 := eq_true c4
     have c4b1 : decide (0 ≤ x8_1) = true := decide_eq_true c4
     clear c4
     by_cases c5 : x8_1 ≤ (wrap64 (x8_1 + 1))
     ·rw [if_pos c5] at H
      have c5b0 := eq_true c5
      have c5b1 : decide (x8_1 ≤ (wrap64 (x8_1 + 1))) = true := decide_eq_true c5
      by_cases c6 : (wrap64 (x8_1 + 1)) ≤ (a0.size : Int)
      ·rw [if_pos c6] at H
       have c6b0 := eq_true c6
       have c6b1 : decide ((wrap64 (x8_1 + 1)) ≤ (a0.size : Int)) = true := decide_eq_true c6
       by_cases c7 : x7_1.size + (a0.extract (x8_1 : Int).toNat ((wrap64 (x8_1 + 1)) : Int).toNat).size ≤ 9223372036854775807
       ·rw [if_pos c7] at H
        have c7b0 := eq_true c7
        have c7b1 : decide (x7_1.size + (a0.extract (x8_1 : Int).toNat ((wrap64 (x8_1 + 1)) : Int).toNat).size ≤ 9223372036854775807) = true := decide_eq_true c7
        try have c7b2 : (9223372036854775807 < x7_1.size + (a0.extract (x8_1 : Int).toNat ((wrap64 (x8_1 + 1)) : Int).toNat).size) = False := eq_false (Nat.not_lt.2 c7)
        replace H := Option.bind_eq_some_iff.mp H
        obtain ⟨t461, A80, H⟩ := H
        try dsimp only at H
        have A8 := Aside0.mk A80
        clear A80
        have H' := Aside0.mk H
        clear H
        go_wp2_with (first | ((with_reducible refine gate_callee (f := 88) rfl ?_); refine Short.goesS_ (some 23) Try.func88 #[.string (x7_1 ++ (a0.extract (x8_1 : Int).toNat ((wrap64 (x8_1 + 1)) : Int).toNat))] ?_; (with_reducible refine (offcutref01_cut.calls k1 (x7_1 ++ (a0.extract (x8_1 : Int).toNat ((wrap64 (x8_1 + 1)) : Int).toNat)) t461 _ A8.out).mono ?_); rintro e w' ⟨rfl, ⟨nd, rfl⟩⟩; refine ⟨_, rfl, ?_⟩))
        go_loopg [7, 9] k1 (fun kq v7 v9 w' => ∃ (x7_2 : ByteArray) (x9_2 : Int), v7 = .string x7_2 ∧ v9 = .int .i64 x9_2 ∧ Aside0 (offcutref01_DivMod.l1 kq a0 a1 x6_1 x7_2 x8_1 x9_2 = some (r1, r2)) ∧ Aside0 (kq ≤ k1) ∧ Drawn0 w w')
        case atStart => exact ⟨(t461), (0), (by first | rfl | (simp; done) | (simp [*]; done)), (by first | rfl | (simp; done) | (simp [*]; done)), H', ⟨Nat.le_refl _⟩, by repeat (first | exact Drawn0.refl _ | apply Drawn0.step)⟩
        case round =>
         clear H'
         try clear p2
         try clear c3
         try clear c3b0
         try clear c4
         try clear c4b0
         try clear c4b1
         try clear c5
         try clear c5b0
         try clear c5b1
         try clear c6
         try clear c6b0
         try clear c6b1
         try clear p6
         try clear c7
         try clear c7b0
         try clear c7b1
         try clear c7b2
         try clear c8
         try clear p2
         obtain ⟨x7_2, x9_2, rfl, rfl, HA, HK2, ⟨m2, rfl⟩⟩ := hrel
         cases gk with
         | zero => exact absurd HA.out (by simp [offcutref01_DivMod.l1])
         | succ k2 =>
          have H := HA.out
          clear HA
          simp only [offcutref01_DivMod.l1] at H
          replace H := Option.bind_eq_some_iff.mp H
          obtain ⟨t462, A90, H⟩ := H
          try dsimp only at H
          have A9 := Aside0.mk A90
          clear A90
          by_cases c10 : t462 = true
          ·subst c10
           have H1 : ((offcutref01_sign.f x9_2).bind fun t463 => (if x6_1.size + t463.size ≤ 9223372036854775807 then (offcutref01_DivMod.l0 k2 a0 a1 (x6_1 ++ t463) x7_2 (wrap64 (x8_1 + 1))) else (none))) = some (r1, r2) := by rw [if_pos rfl] at H; exact H
           clear H
           have H := H1
           clear H1
           replace H := Option.bind_eq_some_iff.mp H
           obtain ⟨t463, A110, H⟩ := H
           try dsimp only at H
           have A11 := Aside0.mk A110
           clear A110
           by_cases c12 : x6_1.size + t463.size ≤ 9223372036854775807
           ·rw [if_pos c12] at H
            have c12b0 := eq_true c12
            have c12b1 : decide (x6_1.size + t463.size ≤ 9223372036854775807) = true := decide_eq_true c12
            try have c12b2 : (9223372036854775807 < x6_1.size + t463.size) = False := eq_false (Nat.not_lt.2 c12)
            have H' := Aside0.mk H
            clear H
            go_wp2_with (first | ((with_reducible refine gate_callee (f := 99) rfl ?_); refine Short.goesS_ (some 26) Try.func99 #[.string x7_2, .string a1] ?_; (with_reducible refine (offcutref01_Less.calls x7_2 a1 true _ A9.out).mono ?_); rintro e w' ⟨rfl, ⟨nd, rfl⟩⟩; refine ⟨_, rfl, ?_⟩) | ((with_reducible refine gate_callee (f := 87) rfl ?_); refine Short.goesS_ (some 35) Try.func87 #[.int .i64 x9_2] ?_; (with_reducible refine (offcutref01_sign.calls x9_2 t463 _ A11.out).mono ?_); rintro e w' ⟨rfl, ⟨nd, rfl⟩⟩; refine ⟨_, rfl, ?_⟩))
            go_roundg k2
            case measure => have := HK1.out; have := HK2.out; omega
            case rel => exact ⟨(x6_1 ++ t463), (x7_2), (wrap64 (x8_1 + 1)), (by first | rfl | (simp; done) | (simp [*]; done)), (by first | rfl | (simp; done) | (simp [*]; done)), (by first | rfl | (simp; done) | (simp [*]; done)), H', ⟨by have := HK1.out; have := HK2.out; omega⟩, by repeat (first | exact Drawn0.refl _ | apply Drawn0.step)⟩
           ·rw [if_neg c12] at H
            exact absurd H (by simp)
          ·replace c10 := Bool.eq_false_iff.mpr c10
           subst c10
           have H1 : ((offcutref01_Sub.f k2 x7_2 a1).bind fun t464 => (offcutref01_DivMod.l1 k2 a0 a1 x6_1 t464 x8_1 (wrap64 (x9_2 + 1)))) = some (r1, r2) := by rw [if_neg (show ¬ (false = true) by decide)] at H; exact H
           clear H
           have H := H1
           clear H1
           replace H := Option.bind_eq_some_iff.mp H
           obtain ⟨t464, A130, H⟩ := H
           try dsimp only at H
           have A13 := Aside0.mk A130
           clear A130
           have H' := Aside0.mk H
           clear H
           go_wp2_with (first | ((with_reducible refine gate_callee (f := 99) rfl ?_); refine Short.goesS_ (some 26) Try.func99 #[.string x7_2, .string a1] ?_; (with_reducible refine (offcutref01_Less.calls x7_2 a1 false _ A9.out).mono ?_); rintro e w' ⟨rfl, ⟨nd, rfl⟩⟩; refine ⟨_, rfl, ?_⟩) | ((with_reducible refine gate_callee (f := 100) rfl ?_); refine Short.goesS_ (some 30) Try.func100 #[.string x7_2, .string a1] ?_; (with_reducible refine (offcutref01_Sub.calls k2 x7_2 a1 t464 _ A13.out).mono ?_); rintro e w' ⟨rfl, ⟨nd, rfl⟩⟩; refine ⟨_, rfl, ?_⟩))
           go_roundg k2
           case measure => have := HK1.out; have := HK2.out; omega
           case rel => exact ⟨(t464), (wrap64 (x9_2 + 1)), (by first | rfl | (simp; done) | (simp [*]; done)), (by first | rfl | (simp; done) | (simp [*]; done)), H', ⟨by have := HK1.out; have := HK2.out; omega⟩, by repeat (first | exact Drawn0.refl _ | apply Drawn0.step)⟩
       ·rw [if_neg c7] at H
        exact absurd H (by simp)
      ·rw [if_neg c6] at H
       exact absurd H (by simp)
     ·rw [if_neg c5] at H
      exact absurd H (by simp)
    ·rw [if_neg c4] at H
     exact absurd H (by simp)
   ·rw [if_neg c3] at H
    have c3b0 : decide (x8_1 < (a0.size : Int)) = false := decide_eq_false c3
    clear c3
    replace H := Option.bind_eq_some_iff.mp H
    obtain ⟨t460, A140, H⟩ := H
    replace H : (some (t460, x7_1)) = some (r1, r2) := H
    have A14 := Aside0.mk A140
    clear A140
    simp only [Option.some.injEq, Prod.mk.injEq] at H
    obtain ⟨rfl, rfl⟩ := H
    go_wp2_with (first | ((with_reducible refine gate_callee (f := 88) rfl ?_); refine Short.goesS_ (some 38) Try.func88 #[.string x6_1] ?_; (with_reducible refine (offcutref01_cut.calls k1 x6_1 t460 _ A14.out).mono ?_); rintro e w' ⟨rfl, ⟨nd, rfl⟩⟩; refine ⟨_, rfl, ?_⟩))
    go_ret2
    exact ⟨by first | rfl | (simp; done) | (simp [*]; done), by repeat (first | exact Drawn0.refl _ | apply Drawn0.step)⟩

/-- How often y goes into t: what is left, and the digit; then what follows. -/
theorem offcutref01_DivMod.ev_1 {x0 : ByteArray} {y : Nat} (hy : y ≠ 0) {qs : List Nat} (lq : qs.length < 1000000000) {i : Nat} (li : i < 1000000000) {r : ByteArray × ByteArray} {R n0 : Nat} (hR : R < y) (hn0 : n0 < 10)
  (next : Ev (fun k => offcutref01_DivMod.l0 k x0 (Dec.dec y) (Dec.tx (n0 :: qs)) (Dec.dec R) ((i + 1 : Nat) : Int)) r) (d : Nat) : ∀ (n : Nat), n + d = n0 → (Dec.dc (R + y * d)).length < 1000000000 →
  Ev (fun k => offcutref01_DivMod.l1 k x0 (Dec.dec y) (Dec.tx qs) (Dec.dec (R + y * d)) (i : Int) (n : Int)) r := by
 induction d with
 | zero =>
  intro n hn hl
  obtain rfl : n = n0 := by omega
  refine Ev.step (f := fun k => offcutref01_DivMod.l0 k x0 (Dec.dec y) (Dec.tx (n :: qs)) (Dec.dec R) ((i + 1 : Nat) : Int)) (fun k => ?_) next
  rw [offcutref01_DivMod.l1, offcutref01_Less.sem, Option.bind_some, Nat.mul_zero, Nat.add_zero, decide_eq_true hR, if_pos rfl, offcutref01_sign.sem _ hn0, Option.bind_some, Dec.tx_append, Dec.tx_size, Dec.tx_size, if_pos (by rw [List.length_singleton]; omega), Dec.w64s _ (by omega)]
  rfl
 | succ d ih =>
  intro n hn hl
  have hle : y ≤ R + y * (d + 1) := by rw [Nat.mul_succ]; omega
  have hs := offcutref01_Sub.ev_dec hle hl
  have e : R + y * (d + 1) - y = R + y * d := by rw [Nat.mul_succ]; omega
  rw [e] at hs
  have hl2 : (Dec.dc (R + y * d)).length < 1000000000 := by
   rcases Nat.lt_or_ge (Dec.dc (R + y * (d + 1))).length (Dec.dc (R + y * d)).length with h1 | h1
   ·have := Dec.dc_len_lt h1
    rw [Nat.mul_succ] at this
    omega
   ·omega
  refine Ev.step (f := fun k => (offcutref01_Sub.f k (Dec.dec (R + y * (d + 1))) (Dec.dec y)).bind fun t268 => (offcutref01_DivMod.l1 k x0 (Dec.dec y) (Dec.tx qs) t268 (i : Int) ((n + 1 : Nat) : Int))) (fun k => ?_) (Ev.bind hs (ih (n + 1) (by omega) hl2))
  rw [offcutref01_DivMod.l1, offcutref01_Less.sem, Option.bind_some, decide_eq_false (by omega), if_neg (by decide), Dec.w64s _ (by omega)]
theorem offcutref01_DivMod.ev_0 {a : List Nat} (ha : Dec.Ds a) (la : a.length < 100000000) {y : Nat} (hy : y ≠ 0) (ly : (Dec.dc y).length < 100000000) (d : Nat) : ∀ (qs : List Nat), qs.length + d = a.length → Dec.Ds qs → Dec.dv qs = Dec.dv (a.drop d) / y →
  Ev (fun k => offcutref01_DivMod.l0 k (Dec.tx a) (Dec.dec y) (Dec.tx qs) (Dec.dec (Dec.dv (a.drop d) % y)) (qs.length : Int)) (Dec.dec (Dec.dv a / y), Dec.dec (Dec.dv a % y)) := by
 induction d with
 | zero =>
  intro qs hl hq hv
  rw [List.drop_zero] at hv ⊢
  refine Ev.step (f := fun k => (offcutref01_cut.f k (Dec.tx qs)).bind fun t264 => (some (t264, Dec.dec (Dec.dv a % y)))) (fun k => ?_) ?_
  ·rw [offcutref01_DivMod.l0, Dec.tx_size, if_neg (by omega)]
  ·rw [← hv]
   exact Ev.bind (offcutref01_cut.ev hq) (Ev.now _)
 | succ d ih =>
  intro qs hl hq hv
  have hg := ha.getD d
  obtain ⟨g, hgd⟩ : ∃ g, g = a.getD d 0 := ⟨_, rfl⟩
  rw [← hgd] at hg
  obtain ⟨P, hP⟩ : ∃ P, P = Dec.dv (a.drop (d + 1)) := ⟨_, rfl⟩
  have hdrop : Dec.dv (a.drop d) = g + 10 * P := by
   rw [List.drop_eq_getElem_cons (by omega), Dec.dv, hP]
   have : a[d] = g := by rw [hgd, List.getD_eq_getElem?_getD, List.getElem?_eq_getElem (by omega)]; rfl
   rw [this]
  rw [← hP] at hv ⊢
  have hr := Nat.mod_lt P (Nat.pos_of_ne_zero hy)
  have hPe := Nat.div_add_mod P y
  obtain ⟨t, ht⟩ : ∃ t, t = g + 10 * (P % y) := ⟨_, rfl⟩
  have htot : Dec.dv (a.drop d) = t + y * (10 * (P / y)) := by
   rw [hdrop, ht]
   have h1 : y * (10 * (P / y)) = 10 * (y * (P / y)) := Nat.mul_left_comm _ _ _
   omega
  have hq1 : Dec.dv (a.drop d) / y = t / y + 10 * (P / y) := by rw [htot, Nat.add_mul_div_left _ _ (Nat.pos_of_ne_zero hy)]
  have hm1 : Dec.dv (a.drop d) % y = t % y := by rw [htot, Nat.add_mul_mod_self_left]
  have htl : t < 10 * y := by omega
  have hn : t / y < 10 := Nat.div_lt_of_lt_mul (by rw [Nat.mul_comm]; exact htl)
  have hte : t % y + y * (t / y) = t := Nat.mod_add_div t y
  have ht2 : (Dec.dc t).length ≤ (Dec.dc y).length + 1 := by
   have h1 := Dec.dv_lt (Dec.Ds_dc y)
   rw [Dec.dv_dc] at h1
   refine Dec.dc_length_le (by omega) ?_
   rw [Nat.pow_succ]
   omega
  have hrl : (Dec.dc (P % y)).length ≤ (Dec.dc y).length := by
   rcases Nat.lt_or_ge (Dec.dc y).length (Dec.dc (P % y)).length with h1 | h1
   ·have := Dec.dc_len_lt h1
    omega
   ·exact h1
  have hcut := offcutref01_cut.ev ((Dec.Ds_dc (P % y)).cons hg)
  rw [Dec.dv, Dec.dv_dc, ← ht] at hcut
  have hex : (Dec.tx a).extract qs.length (qs.length + 1) = Dec.tx [g] := by
   rw [Dec.tx_extract]
   unfold Dec.tx
   congr 2
   rw [show qs.length + 1 - qs.length = 1 from by omega, List.take_one, List.head?_drop, List.getElem?_map, List.getElem?_reverse (by omega), show a.length - 1 - qs.length = d from by omega, List.getElem?_eq_getElem (by omega), hgd, List.getD_eq_getElem?_getD, List.getElem?_eq_getElem (by omega)]
   rfl
  refine Ev.step (f := fun k => (offcutref01_cut.f k (Dec.tx (g :: Dec.dc (P % y)))).bind fun t265 => (offcutref01_DivMod.l1 k (Dec.tx a) (Dec.dec y) (Dec.tx qs) t265 (qs.length : Int) ((0 : Nat) : Int))) (fun k => ?_) (Ev.bind hcut ?_)
  ·rw [offcutref01_DivMod.l0, Dec.w64s _ (by omega), Int.toNat_natCast, Int.toNat_natCast, hex, Dec.tx_size, if_pos (by omega), if_pos (by omega), if_pos (by omega), if_pos (by omega), if_pos (by unfold Dec.dec; rw [Dec.tx_size, Dec.tx_size, List.length_singleton]; omega)]
   show (offcutref01_cut.f k (Dec.tx (Dec.dc (P % y)) ++ Dec.tx [g])).bind _ = _
   rw [Dec.tx_append]
   rfl
  ·have hnext := ih (t / y :: qs) (by rw [List.length_cons]; omega) (hq.cons hn) (by rw [Dec.dv, hv, hq1])
   rw [hm1, List.length_cons] at hnext
   have := offcutref01_DivMod.ev_1 (x0 := Dec.tx a) hy (qs := qs) (by omega) (i := qs.length) (by omega) (Nat.mod_lt t (Nat.pos_of_ne_zero hy)) hn hnext (t / y) 0 (by omega) (by rw [hte]; omega)
   rw [hte] at this
   exact this
theorem offcutref01_DivMod.ev {x y : Nat} (lx : (Dec.dc x).length < 100000000) (hy : y ≠ 0) (ly : (Dec.dc y).length < 100000000) : Ev (fun k => offcutref01_DivMod.f k (Dec.dec x) (Dec.dec y)) (Dec.dec (x / y), Dec.dec (x % y)) := by
 have := offcutref01_DivMod.ev_0 (Dec.Ds_dc x) lx hy ly (Dec.dc x).length [] (by rw [List.length_nil]; omega) Dec.Ds.nil (by rw [List.drop_length]; exact (Nat.zero_div y).symm)
 rw [List.drop_length, Dec.dv_dc, Dec.dv, Nat.zero_mod, Dec.dec_zero] at this
 exact this
set_option synthInstance.checkSynthOrder false in
open Lin in
instance offcutref01_DivMod.t {k : Nat} {a0 : ByteArray} {a1 : ByteArray} {r : ByteArray × ByteArray} [h : Ans (offcutref01_DivMod.f k a0 a1) r] : Tl Try.prog 81 [.one (.val (.string a0)), .one (.val (.string a1))] (.tup [.one (.val (.string r.1)), .one (.val (.string r.2))]) := ⟨Tells.of Try.func81 fun out w vs ho hl hv => by
 obtain ⟨u0, u1, rfl, h0, h1⟩ := args2 hl hv
 obtain rfl := h0.1
 obtain rfl := h1.1
 refine (offcutref01_DivMod.calls k a0 a1 _ _ w h.out).mono ?_
 rintro e w' ⟨rfl, hb⟩
 exact ⟨_, rfl, tup2 (⟨rfl, rfl⟩) (⟨rfl, rfl⟩), below_of_drawn hb⟩⟩
def offcutref01_Gcd.l0 : Nat → ByteArray → ByteArray → Option (ByteArray)
 | 0, _, _ => none
 | k + 1, x0, x1 => if x1.toList = ([48] : List UInt8) then (some x0) else ((offcutref01_DivMod.f k x0 x1).bind fun bt465 => (offcutref01_Gcd.l0 k x1 bt465.2))
def offcutref01_Gcd.f (k : Nat) (a0 : ByteArray) (a1 : ByteArray) : Option (ByteArray) := offcutref01_Gcd.l0 k a0 a1
set_option maxHeartbeats 8000000 in
set_option maxRecDepth 100000 in
theorem offcutref01_Gcd.calls (k : Nat) (a0 : ByteArray) (a1 : ByteArray) (r : ByteArray) (w : World) (h : offcutref01_Gcd.f k a0 a1 = some r) :
  Calls Try.prog 80 #[.string a0, .string a1] w fun e w' => e = .returned (.string r) ∧ Drawn0 w w' := by
 have H : (offcutref01_Gcd.l0 k a0 a1) = some r := h
 clear h
 have H' := Aside0.mk H
 clear H
 go_enter Try.func80, Try.ntmps80
 go_wp2
 go_loopg [0, 1] k (fun kq v0 v1 w' => ∃ (x0_1 : ByteArray) (x1_1 : ByteArray), v0 = .string x0_1 ∧ v1 = .string x1_1 ∧ Aside0 (offcutref01_Gcd.l0 kq x0_1 x1_1 = some r) ∧ Aside0 (kq ≤ k) ∧ Drawn0 w w')
 case atStart => exact ⟨(a0), (a1), (by first | rfl | (simp; done) | (simp [*]; done)), (by first | rfl | (simp; done) | (simp [*]; done)), H', ⟨Nat.le_refl _⟩, by repeat (first | exact Drawn0.refl _ | apply Drawn0.step)⟩
 case round =>
  clear H'
  try clear p2
  obtain ⟨x0_1, x1_1, rfl, rfl, HA, HK1, ⟨m1, rfl⟩⟩ := hrel
  cases gk with
  | zero => exact absurd HA.out (by simp [offcutref01_Gcd.l0])
  | succ k1 =>
   have H := HA.out
   clear HA
   simp only [offcutref01_Gcd.l0] at H
   by_cases c3 : x1_1.toList = ([48] : List UInt8)
   ·rw [if_pos c3] at H
    have c3b0 : (x1_1.toList == ([48] : List UInt8)) = true := beq_iff_eq.mpr c3
    have c3b1 : (x1_1.toList != ([48] : List UInt8)) = false := bne_eq_false_iff_eq.mpr c3
    clear c3
    obtain rfl := Option.some.inj H
    go_wp2
    go_ret
    exact ⟨by first | rfl | (simp; done) | (simp [*]; done), by repeat (first | exact Drawn0.refl _ | apply Drawn0.step)⟩
   ·rw [if_neg c3] at H
    have c3b0 : (x1_1.toList == ([48] : List UInt8)) = false := beq_eq_false_iff_ne.mpr c3
    have c3b1 : (x1_1.toList != ([48] : List UInt8)) = true := bne_iff_ne.mpr c3
    replace H := Option.bind_eq_some_iff.mp H
    obtain ⟨⟨t465, t466⟩, A40, H⟩ := H
    replace H : (offcutref01_Gcd.l0 k1 x1_1 t466) = some r := H
    have A4 := Aside0.mk A40
    clear A40
    have H' := Aside0.mk H
    clear H
    go_wp2_with (first | ((with_reducible refine gate_callee (f := 81) rfl ?_); refine Short.goesS_ (some 12) Try.func81 #[.string x0_1, .string x1_1] ?_; (with_reducible refine (offcutref01_DivMod.calls k1 x0_1 x1_1 t465 t466 _ A4.out).mono ?_); rintro e w' ⟨rfl, ⟨nd, rfl⟩⟩; refine ⟨_, rfl, ?_⟩))
    go_roundg k1
    case measure => have := HK1.out; omega
    case rel => exact ⟨(x1_1), (t466), (by first | rfl | (simp; done) | (simp [*]; done)), (by first | rfl | (simp; done) | (simp [*]; done)), H', ⟨by have := HK1.out; omega⟩, by repeat (first | exact Drawn0.refl _ | apply Drawn0.step)⟩

theorem offcutref01_Gcd.ev {K : Nat} (hK : K < 1000000) (hK1 : 1 ≤ K) (b : Nat) : ∀ a : Nat, a < 2 ^ (32 * K) → b < 2 ^ (32 * K) → Ev (fun k => offcutref01_Gcd.f k (Dec.dec a) (Dec.dec b)) (Dec.dec (Nat.gcd a b)) := by
 induction b using Nat.strongRecOn with
 | ind b ih =>
  intro a ha hb
  by_cases h0 : b = 0
  ·subst h0
   rw [Nat.gcd_zero_right]
   refine Ev.step (f := fun _ => some (Dec.dec a)) (fun k => ?_) (Ev.now _)
   show offcutref01_Gcd.l0 (k + 1) _ _ = _
   rw [offcutref01_Gcd.l0, if_pos ((Dec.dec_is0 0).2 rfl)]
  ·have la := Dec.dc_len32 hK1 ha
   have lb := Dec.dc_len32 hK1 hb
   have hm := Nat.mod_lt a (Nat.pos_of_ne_zero h0)
   refine Ev.step (f := fun k => (offcutref01_DivMod.f k (Dec.dec a) (Dec.dec b)).bind fun bt300 => (offcutref01_Gcd.l0 k (Dec.dec b) bt300.2)) (fun k => ?_) (Ev.bind (offcutref01_DivMod.ev (by omega) h0 (by omega)) ?_)
   ·show offcutref01_Gcd.l0 (k + 1) _ _ = _
    rw [offcutref01_Gcd.l0, if_neg (fun e => h0 ((Dec.dec_is0 b).1 e))]
   ·have := ih (a % b) hm b hb (Nat.lt_trans hm hb)
    rw [Nat.gcd_comm b (a % b), ← Nat.gcd_rec, Nat.gcd_comm b a] at this
    exact this
set_option synthInstance.checkSynthOrder false in
open Lin in
instance offcutref01_Gcd.t {k : Nat} {a0 : ByteArray} {a1 : ByteArray} {r : ByteArray} [h : Ans (offcutref01_Gcd.f k a0 a1) r] : Tl Try.prog 80 [.one (.val (.string a0)), .one (.val (.string a1))] (.el (.one (.val (.string r)))) := ⟨Tells.of Try.func80 fun out w vs ho hl hv => by
 obtain ⟨u0, u1, rfl, h0, h1⟩ := args2 hl hv
 obtain rfl := h0.1
 obtain rfl := h1.1
 refine (offcutref01_Gcd.calls k a0 a1 _ w h.out).mono ?_
 rintro e w' ⟨rfl, hb⟩
 exact ⟨_, rfl, ⟨rfl, rfl⟩, below_of_drawn hb⟩⟩
def offcutref03_Low.j0 : Nat → ByteArray → ByteArray → ByteArray → Option (ByteArray × ByteArray)
 | 0, _, _, _ => none
 | k + 1, x0, x1, x5 => (offcutref01_Gcd.f k x5 x1).bind fun t469 => ((offcutref01_DivMod.f k x5 t469).bind fun bt470 => ((offcutref01_DivMod.f k x1 t469).bind fun bt472 => ((offcutref02_Below.f x0).bind fun t474 => ((offcutref02_Made.f t474 bt470.1).bind fun t475 => (some (t475, bt472.1))))))
def offcutref03_Low.f (k : Nat) (a0 : ByteArray) (a1 : ByteArray) : Option (ByteArray × ByteArray) := (offcutref02_Below.f a0).bind fun t468 => (if t468 = true then (if 1 ≤ (a0.size : Int) then (offcutref03_Low.j0 k a0 a1 (a0.extract 1 a0.size)) else (none)) else (offcutref03_Low.j0 k a0 a1 a0))
theorem offcutref03_Low.ev {p : Int} {q K : Nat} (hp : p.natAbs < 2 ^ (32 * K)) (hq : q < 2 ^ (32 * K)) (q0 : q ≠ 0) (hK1 : 1 ≤ K) (hK : K < 400000) : Ev (fun k => offcutref03_Low.f k (Zn.tz p) (Dec.dec q)) (Zn.tz (mkRat p q).num, Dec.dec (mkRat p q).den) := by
 obtain ⟨g, hg⟩ : ∃ g, g = Nat.gcd p.natAbs q := ⟨_, rfl⟩
 have G := offcutref01_Gcd.ev (K := K) (by omega) hK1 q p.natAbs hp hq
 rw [← hg] at G
 have g0 : g ≠ 0 := by
  have := Nat.gcd_pos_of_pos_right p.natAbs (Nat.pos_of_ne_zero q0)
  omega
 have bg : g < 2 ^ (32 * K) := Nat.lt_of_le_of_lt (Nat.le_of_dvd (Nat.pos_of_ne_zero q0) (by rw [hg]; exact Nat.gcd_dvd_right _ _)) hq
 have lp := Dec.dc_len32 hK1 hp
 have lq := Dec.dc_len32 hK1 hq
 have lg := Dec.dc_len32 hK1 bg
 have D1 := offcutref01_DivMod.ev (x := p.natAbs) (y := g) (by omega) g0 (by omega)
 have D2 := offcutref01_DivMod.ev (x := q) (y := g) (by omega) g0 (by omega)
 have ld := Dec.dc_len32 hK1 (Nat.lt_of_le_of_lt (Nat.div_le_self p.natAbs g) hp)
 have Md := offcutref02_Made.sem (decide (p < 0)) (p.natAbs / g) (by omega)
 have e1 := Qn.num_eq (decide (p < 0)) p.natAbs q q0
 have e2 := Qn.den_eq (decide (p < 0)) p.natAbs q q0
 rw [← hg, Zn.zv_self] at e1 e2
 rw [← e1] at Md
 rw [← e2] at D2
 have J : Ev (fun k => offcutref03_Low.j0 k (Zn.tz p) (Dec.dec q) (Dec.dec p.natAbs)) (Zn.tz (mkRat p q).num, Dec.dec (mkRat p q).den) := by
  refine Ev.step (f := fun k => (offcutref01_Gcd.f k (Dec.dec p.natAbs) (Dec.dec q)).bind fun t613 => (offcutref01_DivMod.f k (Dec.dec p.natAbs) t613).bind fun bt614 => (offcutref01_DivMod.f k (Dec.dec q) t613).bind fun bt616 => (offcutref02_Below.f (Zn.tz p)).bind fun t618 => (offcutref02_Made.f t618 bt614.1).bind fun t619 => some (t619, bt616.1)) (fun k => by rw [offcutref03_Low.j0]) ?_
  exact Ev.bind G (Ev.bind D1 (Ev.bind D2 (Dec.val (fun _ => offcutref02_Below.sem p) (Dec.val (fun _ => Md) (Ev.now _)))))
 unfold offcutref03_Low.f
 refine Dec.val (fun _ => offcutref02_Below.sem p) ?_
 by_cases h : p < 0
 ·have e : (Zn.tz p).extract 1 (Zn.tz p).size = Dec.dec p.natAbs := by rw [Zn.tz_neg h, Zn.minus_tail]
  have hs := Zn.tz_size_pos p
  rw [← e] at J
  exact Dec.yes (decide_eq_true h) (Dec.yes (by omega) J)
 ·have e : Zn.tz p = Dec.dec p.natAbs := Zn.tz_pos h
  rw [← e] at J
  exact Dec.no (by rw [decide_eq_false h]; decide) J
set_option synthInstance.checkSynthOrder false in
open Lin in
set_option maxHeartbeats 4000000 in
instance offcutref03_Low.t {k : Nat} {a0 : ByteArray} {a1 : ByteArray} {r : ByteArray × ByteArray} [h : Ans (offcutref03_Low.f k a0 a1) r] : Tl Try.prog 50 [.one (.val (.string a0)), .one (.val (.string a1))] (.el (.agg [.val (.string r.1), .val (.string r.2)])) := by
 have h := h.out
 unfold offcutref03_Low.f at h
 repeat' (first | (replace h := Lin.bndK h) | (replace h := Lin.bnd h; obtain ⟨_, _, h⟩ := h) | split at h | unfold offcutref03_Low.j0 at h | cases h)
 all_goals exact ⟨Tells.go Try.func50 Try.ntmps50⟩
mutual
def offcutref01_Mul.l0 : Nat → ByteArray → ByteArray → List Int → Int → Option (ByteArray)
 | 0, _, _, _, _ => none
 | k + 1, x0, x1, x5, x6 => if x6 < (x0.size : Int) then (offcutref01_Mul.l1 k x0 x1 x5 x6 0) else (offcutref01_Mul.l2 k x5 (⟨#[]⟩ : ByteArray) 0 0)
def offcutref01_Mul.l1 : Nat → ByteArray → ByteArray → List Int → Int → Int → Option (ByteArray)
 | 0, _, _, _, _, _ => none
 | k + 1, x0, x1, x5, x6, x7 => if x7 < (x1.size : Int) then (if 0 ≤ (wrap64 (x6 + x7)) then (if (wrap64 (x6 + x7)) < (x5.length : Int) then ((offcutref01_at.f x0 x6).bind fun t480 => ((offcutref01_at.f x1 x7).bind fun t481 => (offcutref01_Mul.l1 k x0 x1 (x5.set ((wrap64 (x6 + x7)) : Int).toNat (wrap64 ((rd x5 (wrap64 (x6 + x7))) + (wrap64 (t480 * t481))))) x6 (wrap64 (x7 + 1))))) else (none)) else (none)) else (offcutref01_Mul.l0 k x0 x1 x5 (wrap64 (x6 + 1)))
def offcutref01_Mul.l2 : Nat → List Int → ByteArray → Int → Int → Option (ByteArray)
 | 0, _, _, _, _ => none
 | k + 1, x5, x8, x9, x10 => if x10 < (x5.length : Int) then (if 0 ≤ x10 then ((offcutref01_sign.f (Int.tmod (wrap64 ((rd x5 x10) + x9)) 10)).bind fun t484 => (if t484.size + x8.size ≤ 9223372036854775807 then (offcutref01_Mul.l2 k x5 (t484 ++ x8) (wrap64 (Int.tdiv (wrap64 ((rd x5 x10) + x9)) 10)) (wrap64 (x10 + 1))) else (none))) else (none)) else ((offcutref01_cut.f k x8).bind fun t485 => (some t485))
end
def offcutref01_Mul.f (k : Nat) (a0 : ByteArray) (a1 : ByteArray) : Option (ByteArray) := if 0 ≤ (wrap64 ((wrap64 ((a0.size : Int) + (a1.size : Int))) + 1)) then (if (wrap64 ((wrap64 ((a0.size : Int) + (a1.size : Int))) + 1) : Int).toNat ≤ 35184372088832 then (offcutref01_Mul.l0 k a0 a1 (List.replicate (wrap64 ((wrap64 ((a0.size : Int) + (a1.size : Int))) + 1) : Int).toNat 0) 0) else (none)) else (none)
def offcutref01_Mul.T8 : Bool × List (List Nat × List Nat) := (true, [([], []), ([], []), ([], []), ([1, 2], [1, 2]), ([], []), ([], []), ([], []), ([5, 6], [5, 6]), ([4, 7], [4, 7]), ([8], [8]), ([], []), ([], []), ([10, 11], [10, 11]), ([], []), ([], []), ([13, 14, 12], [13, 14]), ([12, 15], [12, 15]), ([9, 16], [9, 16]), ([0, 3, 0, 1, 2, 3, 4, 5, 6, 7, 8, 9, 10, 11, 12, 13, 14, 15, 16, 17], [0, 3]), ([18, 17, 15, 0, 1, 2, 3, 4, 5, 6, 7, 8, 9, 10, 11, 12, 13, 14, 15, 16, 17], [17, 18])])
def offcutref01_Mul.B8 : List Nat := [0, 0, 0, 6, 0, 0, 0, 96, 240, 496, 0, 0, 3072, 0, 0, 31744, 64512, 131056, 262143, 524287]
theorem offcutref01_Mul.tab8 : rtab .any (opsOf Try.f82 8) = offcutref01_Mul.T8 := by kernel_rfl
theorem offcutref01_Mul.bits8 : waitsOk offcutref01_Mul.T8.2 offcutref01_Mul.B8 = true := by kernel_rfl
set_option maxHeartbeats 8000000 in
set_option maxRecDepth 100000 in
theorem offcutref01_Mul.calls (k : Nat) (a0 : ByteArray) (a1 : ByteArray) (r : ByteArray) (w : World) (h : offcutref01_Mul.f k a0 a1 = some r) :
  Calls Try.prog 82 #[.string a0, .string a1] w fun e w' => e = .returned (.string r) ∧ Below w.heap.size w w' := by
 have HB := Aside0.mk (Below.refl w.heap.size w)
 have H : (if 0 ≤ (wrap64 ((wrap64 ((a0.size : Int) + (a1.size : Int))) + 1)) then (if (wrap64 ((wrap64 ((a0.size : Int) + (a1.size : Int))) + 1) : Int).toNat ≤ 35184372088832 then (offcutref01_Mul.l0 k a0 a1 (List.replicate (wrap64 ((wrap64 ((a0.size : Int) + (a1.size : Int))) + 1) : Int).toNat 0) 0) else (none)) else (none)) = some r := h
 clear h
 obtain ⟨ji3, hji3⟩ : ∃ j_ : Int, (wrap64 ((wrap64 ((a0.size : Int) + (a1.size : Int))) + 1)) = j_ := ⟨_, rfl⟩
 replace H : (if 0 ≤ (ji3) then (if (ji3 : Int).toNat ≤ 35184372088832 then (offcutref01_Mul.l0 k a0 a1 (List.replicate (ji3 : Int).toNat 0) 0) else (none)) else (none)) = some r := by first | (rw [hji3] at H; exact H) | (simp only [hji3] at H ⊢; exact H)
 have hji3w : (IntKind.i64.wrap ((wrap64 ((a0.size : Int) + (a1.size : Int))) + 1)) = ji3 := (i64_w _).trans hji3
 by_cases c4 : 0 ≤ (ji3)
 ·rw [if_pos c4] at H
  have c4b0 := eq_true c4
  have c4b1 : decide (0 ≤ (ji3)) = true := decide_eq_true c4
  clear c4
  by_cases c5 : (ji3 : Int).toNat ≤ 35184372088832
  ·rw [if_pos c5] at H
   have c5b0 := eq_true c5
   have c5b1 : decide ((ji3 : Int).toNat ≤ 35184372088832) = true := decide_eq_true c5
   clear c5
   obtain ⟨y476, hy476⟩ : ∃ y_ : List Int, y_ = (List.replicate (ji3 : Int).toNat 0) := ⟨_, rfl⟩
   replace H : (offcutref01_Mul.l0 k a0 a1 y476 0) = some r := by first | (rw [hy476]; with_reducible exact H) | (have H2_ := (Option.bind_some _ _).symm.trans H; rw [hy476]; with_reducible exact H2_) | (have H2_ := (Option.bind_some _ _).symm.trans H; with_reducible exact H2_) | with_reducible exact H | (rw [hy476]; exact H) | exact H
   have Ny476 := Aside0.mk hy476
   clear hy476
   have H' := Aside0.mk H
   clear H
   go_enter Try.func82, Try.ntmps82
   go_wp2_with (first | ((with_reducible refine gate_dst (N := 18) rfl ?_); refine Kd.R_make (Kd.int .i64) _ 3 rfl (N := 18) rfl 116 _ _ rfl ji3 rfl rfl Try.underlying116 (.int .i64 0) 8 info3 rfl (by decide) (by omega) 0 (ok := fun _ => True) (okp := fun _ => True) rfl (fun _ hk => hk) trivial (of_decide_eq_true (by first | (with_reducible assumption) | assumption)) (Nat.le_trans (Nat.mul_le_mul_right _ (of_decide_eq_true (by first | (with_reducible assumption) | assumption) : ji3.toNat ≤ 35184372088832)) (by omega)) (Below.refl _ _) (Nat.le_refl _) ?_; intro v477 w6 ho7 hb hg_ hnew_; clear hg_ hnew_; (first | rw [← Ny476.out] at ho7 | (simp only [Int.reduceToNat] at ho7; rw [← Ny476.out] at ho7)); have HO478 := Aside0.mk (Kd.R_lower ho7 (below_size (by repeat (first | (with_reducible first | exact HB.out | apply below_alloc | apply pw_below_drewN | apply below_drew1) | exact HB.out)))); replace HB := Aside0.mk (below_step (by repeat (first | (with_reducible first | exact HB.out | apply below_alloc | apply pw_below_drewN | apply below_drew1) | exact HB.out)) hb); clear hb ho7))
   go_loopg [6] k (fun kq v6 w' => ∃ (x5_1 : List Int) (x6_1 : Int), v6 = .int .i64 x6_1 ∧ Aside0 (offcutref01_Mul.l0 kq a0 a1 x5_1 x6_1 = some r) ∧ Aside0 (kq ≤ k) ∧ Aside0 (Kd.R (Kd.int .i64) 3 w' w.heap.size (fun _ => True) v477 x5_1) ∧ Aside0 (Below w.heap.size w w'))
   case atStart => exact ⟨(y476), (0), (by first | rfl | (simp; done) | (simp [*]; done)), H', ⟨Nat.le_refl _⟩, ⟨by (with_reducible repeat (first | apply Kd.R_alloc | apply Kd.R_drewN | apply Kd.R_drew)); exact HO478.out⟩, ⟨by repeat (first | (with_reducible first | exact HB.out | apply below_alloc | apply pw_below_drewN | apply below_drew1) | exact HB.out)⟩⟩
   case round =>
    clear H'
    try clear p2
    try clear c4
    try clear c4b0
    try clear c4b1
    try clear c5
    try clear c5b0
    try clear c5b1
    try clear p6
    obtain ⟨x5_1, x6_1, rfl, HA, HK1, HO_5, HB⟩ := hrel
    cases gk with
    | zero => exact absurd HA.out (by simp [offcutref01_Mul.l0])
    | succ k1 =>
     have H := HA.out
     clear HA
     simp only [offcutref01_Mul.l0] at H
     by_cases c8 : x6_1 < (a0.size : Int)
     ·rw [if_pos c8] at H
      have c8b0 : decide (x6_1 < (a0.size : Int)) = true := decide_eq_true c8
      clear c8
      have H' := Aside0.mk H
      clear H
      go_wp2
      go_loopg [7] k1 (fun kq v7 w' => ∃ (x5_2 : List Int) (x7_2 : Int), v7 = .int .i64 x7_2 ∧ Aside0 (offcutref01_Mul.l1 kq a0 a1 x5_2 x6_1 x7_2 = some r) ∧ Aside0 (kq ≤ k1) ∧ Aside0 (Kd.R (Kd.int .i64) 3 w' w.heap.size (fun _ => True) v477 x5_2) ∧ Aside0 (Below w.heap.size w w'))
      case atStart => exact ⟨(x5_1), (0), (by first | rfl | (simp; done) | (simp [*]; done)), H', ⟨Nat.le_refl _⟩, ⟨by (with_reducible repeat (first | apply Kd.R_alloc | apply Kd.R_drewN | apply Kd.R_drew)); exact HO_5.out⟩, ⟨by repeat (first | (with_reducible first | exact HB.out | apply below_alloc | apply pw_below_drewN | apply below_drew1) | exact HB.out)⟩⟩
      case round =>
       clear H'
       try clear p2
       try clear c4
       try clear c4b0
       try clear c4b1
       try clear c5
       try clear c5b0
       try clear c5b1
       try clear p6
       try clear c8
       try clear c8b0
       try clear p2
       try clear p6
       obtain ⟨x5_2, x7_2, rfl, HA, HK2, HO_5, HB⟩ := hrel
       cases gk with
       | zero => exact absurd HA.out (by simp [offcutref01_Mul.l1])
       | succ k2 =>
        have H := HA.out
        clear HA
        simp only [offcutref01_Mul.l1] at H
        by_cases c9 : x7_2 < (a1.size : Int)
        ·rw [if_pos c9] at H
         have c9b0 : decide (x7_2 < (a1.size : Int)) = true := decide_eq_true c9
         clear c9
         obtain ⟨ji10, hji10⟩ : ∃ j_ : Int, (wrap64 (x6_1 + x7_2)) = j_ := ⟨_, rfl⟩
         replace H : (if 0 ≤ (ji10) then (if (ji10) < (x5_2.length : Int) then ((offcutref01_at.f a0 x6_1).bind fun t480 => ((offcutref01_at.f a1 x7_2).bind fun t481 => (offcutref01_Mul.l1 k2 a0 a1 (x5_2.set ((ji10) : Int).toNat (wrap64 ((rd x5_2 (ji10)) + (wrap64 (t480 * t481))))) x6_1 (wrap64 (x7_2 + 1))))) else (none)) else (none)) = some r := by first | (rw [hji10] at H; exact H) | (simp only [hji10] at H ⊢; exact H)
         have hji10w : (IntKind.i64.wrap (x6_1 + x7_2)) = ji10 := (i64_w _).trans hji10
         by_cases c11 : 0 ≤ (ji10)
         ·rw [if_pos c11] at H
          have c11b0 : decide (0 ≤ (ji10)) = true := decide_eq_true c11
          clear c11
          by_cases c12 : (ji10) < (x5_2.length : Int)
          ·rw [if_pos c12] at H
           have c12b0 : decide ((ji10) < (x5_2.length : Int)) = true := decide_eq_true c12
           clear c12
           replace H := Option.bind_eq_some_iff.mp H
           obtain ⟨t480, A130, H⟩ := H
           try dsimp only at H
           have A13 := Aside0.mk A130
           clear A130
           replace H := Option.bind_eq_some_iff.mp H
           obtain ⟨t481, A140, H⟩ := H
           try dsimp only at H
           have A14 := Aside0.mk A140
           clear A140
           obtain ⟨y482, hy482⟩ : ∃ y_ : List Int, y_ = (x5_2.set ((ji10) : Int).toNat (wrap64 ((rd x5_2 (ji10)) + (wrap64 (t480 * t481))))) := ⟨_, rfl⟩
           replace H : (offcutref01_Mul.l1 k2 a0 a1 y482 x6_1 (wrap64 (x7_2 + 1))) = some r := by first | (rw [hy482]; with_reducible exact H) | (have H2_ := (Option.bind_some _ _).symm.trans H; rw [hy482]; with_reducible exact H2_) | (have H2_ := (Option.bind_some _ _).symm.trans H; with_reducible exact H2_) | with_reducible exact H | (rw [hy482]; exact H) | exact H
           have Ny482 := Aside0.mk hy482
           clear hy482
           have H' := Aside0.mk H
           clear H
           try go_wp2
           replace HO_5 := Aside0.mk (Kd.R_drew HO_5.out)
           replace HB := Aside0.mk (below_drew1 HB.out)
           obtain ⟨Ao17, co17, eo17⟩ := Kd.R_slice HO_5.out
           (first | subst eo17 | (injection eo17 with f1_ f2_ f3_; have f4_ := f1_.symm; have f5_ := f3_.symm; clear f1_ f2_ f3_; subst f4_; subst f5_))
           have p479 : 0 ≤ ((ji10) : Int) := of_decide_eq_true (by first | (with_reducible assumption) | assumption)
           have q479 : (ji10) < (x5_2.length : Int) := of_decide_eq_true (by first | (with_reducible assumption) | assumption)
           obtain ⟨ad479, e479, hx479_0⟩ := Kd.at_int (Kd.R_reads' HO_5.out).2.2 (ji10) p479 q479
           cases e479
           replace p479 := eq_true p479
           replace q479 := eq_true q479
           refine start_ (n := 20) (S := fun w' => w'.cell? (ad479.add ((ji10)).toNat) = some (.int .i64 (rd x5_2 (ji10)))) (ds := [19]) #[false, false, false, false, false, false, false, false, false, false, false, false, false, false, false, false, false, false, false, false] (by kernel_rfl) rfl rfl (hx479_0) (fun hHeld => ?_); refine with_tabW offcutref01_Mul.tab8 offcutref01_Mul.bits8 (fun HT_ HW_ => ?_)
           generalize wr.drew = w16 at HO_5 HB hx479_0 hHeld ⊢
           refine Short.pureS_ (i := 0) (N := some 31) #[true, false, false, false, false, false, false, false, false, false, false, false, false, false, false, false, false, false, false, false] (any_of HT_.out (by kernel_rfl)) ?_
           refine Short.pureS_ (i := 1) (N := some 32) #[true, true, false, false, false, false, false, false, false, false, false, false, false, false, false, false, false, false, false, false] (any_of HT_.out (by kernel_rfl)) ?_
           refine Short.pureS_ (i := 2) (N := some 33) #[true, true, true, false, false, false, false, false, false, false, false, false, false, false, false, false, false, false, false, false] (any_of HT_.out (by kernel_rfl)) ?_
           refine Short.pureS_ (i := 3) (N := some 34) #[true, true, true, true, false, false, false, false, false, false, false, false, false, false, false, false, false, false, false, false] (any_of HT_.out (by kernel_rfl)) ?_
           refine Short.pureS_ (i := 4) (N := some 35) #[true, true, true, true, true, false, false, false, false, false, false, false, false, false, false, false, false, false, false, false] (any_of HT_.out (by kernel_rfl)) ?_
           refine Short.pureS_ (i := 5) (N := some 36) #[true, true, true, true, true, true, false, false, false, false, false, false, false, false, false, false, false, false, false, false] (any_of HT_.out (by kernel_rfl)) ?_
           refine Short.pureS_ (i := 6) (N := some 37) #[true, true, true, true, true, true, true, false, false, false, false, false, false, false, false, false, false, false, false, false] (any_of HT_.out (by kernel_rfl)) ?_
           refine Short.pureS_ (i := 7) (N := some 38) #[true, true, true, true, true, true, true, true, false, false, false, false, false, false, false, false, false, false, false, false] (any_of HT_.out (by kernel_rfl)) ?_
           refine Short.pureS_ (i := 8) (N := some 39) #[true, true, true, true, true, true, true, true, true, false, false, false, false, false, false, false, false, false, false, false] (any_of HT_.out (by kernel_rfl)) ?_
           refine Short.pureS_ (i := 10) (N := some 41) #[true, true, true, true, true, true, true, true, true, false, true, false, false, false, false, false, false, false, false, false] (any_of HT_.out (by kernel_rfl)) ?_
           refine Short.pureS_ (i := 11) (N := some 42) #[true, true, true, true, true, true, true, true, true, false, true, true, false, false, false, false, false, false, false, false] (any_of HT_.out (by kernel_rfl)) ?_
           refine Short.pureS_ (i := 13) (N := some 44) #[true, true, true, true, true, true, true, true, true, false, true, true, false, true, false, false, false, false, false, false] (any_of HT_.out (by kernel_rfl)) ?_
           refine Short.pureS_ (i := 14) (N := some 45) #[true, true, true, true, true, true, true, true, true, false, true, true, false, true, true, false, false, false, false, false] (any_of HT_.out (by kernel_rfl)) ?_
           refine take_ (i := 9) (N := some 40) (v := ?_) (a' := ?_) #[true, true, true, true, true, true, true, true, true, true, true, true, false, true, true, false, false, false, false, false] rfl rfl (take_ofW HT_.out HW_.out (by kernel_rfl)) (fun _ _ _ h => h) (Or.inl ⟨by rfl, ?_⟩) hHeld ?_ ?_
           rotate_left
           ·intro w' s0
            go_simp
            with_reducible rfl
           rotate_left
           ·simp only [Act.put, List.setIfInBounds_toArray, List.set_cons_zero, List.set_cons_succ, i64_w, i32_w]
            rfl
           refine one_ (i := 12) (N := some 43) #[true, true, true, true, true, true, true, true, true, true, true, true, true, true, true, false, false, false, false, false] rfl rfl (one_of HT_.out (by kernel_rfl)) (by decide) (fun K hK => ?_)
           refine Short.goesD_ Try.func101 #[.string a0, .int .i64 x6_1] ?_
           with_reducible refine (offcutref01_at.calls a0 x6_1 t480 _ A13.out).mono ?_
           rintro e w' ⟨rfl, ⟨nd, rfl⟩⟩
           refine ⟨_, rfl, ?_⟩
           refine hK.out _ _ (hHeld) (fun hHeld => ?_)
           clear hK K
           refine Short.normS_ ?_
           refine one_ (i := 15) (N := some 46) #[true, true, true, true, true, true, true, true, true, true, true, true, true, true, true, true, false, false, false, false] rfl rfl (one_of HT_.out (by kernel_rfl)) (by decide) (fun K hK => ?_)
           refine Short.goesD_ Try.func101 #[.string a1, .int .i64 x7_2] ?_
           with_reducible refine (offcutref01_at.calls a1 x7_2 t481 _ A14.out).mono ?_
           rintro e w' ⟨rfl, ⟨nd, rfl⟩⟩
           refine ⟨_, rfl, ?_⟩
           have p15 : 0 ≤ ((ji10) : Int) := of_decide_eq_true (by first | (with_reducible assumption) | assumption)
           have q15 : ((ji10) : Int) < ((x5_2.length : Int) : Int) := of_decide_eq_true (by first | (with_reducible assumption) | assumption)
           obtain ⟨go15, co15, eo15, gb15, gl15, cl15, HG15⟩ := Kd.R_form HO_5.out (by omega)
           (first | cases eo15 | (injection eo15 with ea_ en_ ec_; (first | subst ea_ | (injection ea_ with ea_; subst ea_)); subst ec_; clear en_))
           have GB15 := Aside0.mk gb15
           have GG15 := Aside0.mk HG15
           clear gb15 gl15 HG15
           (first | simp only [add_plain] at hx479_0 | skip)
           obtain ⟨hx15_0, hf15_0⟩ := Kd.R_celln 0 HO_5.out ((ji10) : Int) p15 q15
           replace p15 := eq_true p15
           replace q15 := eq_true q15
           have HP18 := Kd.R_putn HO_5.out ((ji10) : Int) (wrap64 ((rd x5_2 (ji10)) + (wrap64 (t480 * t481))))
           rw [← Ny482.out] at HP18
           have HQ18 := Aside0.mk HP18
           clear HP18
           refine hK.out _ _ (hHeld) (fun hHeld => ?_)
           clear hK K
           refine Short.normS_ ?_
           refine Short.pureS_ (i := 16) (N := some 47) #[true, true, true, true, true, true, true, true, true, true, true, true, true, true, true, true, true, false, false, false] (any_of HT_.out (by kernel_rfl)) ?_
           refine Short.pureS_ (i := 17) (N := some 48) #[true, true, true, true, true, true, true, true, true, true, true, true, true, true, true, true, true, true, false, false] (any_of HT_.out (by kernel_rfl)) ?_
           refine Short.pureS_ (i := 18) (N := some 49) #[true, true, true, true, true, true, true, true, true, true, true, true, true, true, true, true, true, true, true, false] (any_of HT_.out (by kernel_rfl)) ?_
           refine last_ (i := 19) (N := none) #[true, true, true, true, true, true, true, true, true, true, true, true, true, true, true, true, true, true, true, true] rfl rfl (one_of HT_.out (by kernel_rfl)) (by decide) (fun K hK => ?_)
           refine skip_ (w1 := ?_) (by rfl) rfl ?_ ?_
           rotate_left
           ·go_simp
            rfl
           refine hK.out _ _ ?_
           clear hK K
           refine done_ (done_of HT_.out (by kernel_rfl)) ?_
           try go_wp2
           go_roundg k2
           case measure => have := HK1.out; have := HK2.out; omega
           case rel => exact ⟨(y482), (wrap64 (x7_2 + 1)), (by first | rfl | (simp; done) | (simp [*]; done)), H', ⟨by have := HK1.out; have := HK2.out; omega⟩, ⟨by (with_reducible repeat (first | apply Kd.R_alloc | apply Kd.R_drewN | apply Kd.R_drew)); exact HQ18.out⟩, ⟨by repeat (first | (with_reducible first | exact HB.out | apply below_alloc | apply pw_below_drewN | apply below_drew1 | refine below_set ?_ GB15.out) | exact HB.out)⟩⟩
          ·rw [if_neg c12] at H
           exact absurd H (by simp)
         ·rw [if_neg c11] at H
          exact absurd H (by simp)
        ·rw [if_neg c9] at H
         have c9b0 : decide (x7_2 < (a1.size : Int)) = false := decide_eq_false c9
         clear c9
         have H' := Aside0.mk H
         clear H
         go_wp2
         go_roundg k2
         case measure => have := HK1.out; have := HK2.out; omega
         case rel => exact ⟨(x5_2), (wrap64 (x6_1 + 1)), (by first | rfl | (simp; done) | (simp [*]; done)), H', ⟨by have := HK1.out; have := HK2.out; omega⟩, ⟨by (with_reducible repeat (first | apply Kd.R_alloc | apply Kd.R_drewN | apply Kd.R_drew)); exact HO_5.out⟩, ⟨by repeat (first | (with_reducible first | exact HB.out | apply below_alloc | apply pw_below_drewN | apply below_drew1) | exact HB.out)⟩⟩
     ·rw [if_neg c8] at H
      have c8b0 : decide (x6_1 < (a0.size : Int)) = false := decide_eq_false c8
      clear c8
      have H' := Aside0.mk H
      clear H
      go_wp2
      go_loopg [8, 9, 10] k1 (fun kq v8 v9 v10 w' => ∃ (x8_2 : ByteArray) (x9_2 : Int) (x10_2 : Int), v8 = .string x8_2 ∧ v9 = .int .i64 x9_2 ∧ v10 = .int .i64 x10_2 ∧ Aside0 (offcutref01_Mul.l2 kq x5_1 x8_2 x9_2 x10_2 = some r) ∧ Aside0 (kq ≤ k1) ∧ Aside0 (Kd.R (Kd.int .i64) 3 w' w.heap.size (fun _ => True) v477 x5_1) ∧ Aside0 (Below w.heap.size w w'))
      case atStart => exact ⟨((⟨#[]⟩ : ByteArray)), (0), (0), (by first | rfl | (simp; done) | (simp [*]; done)), (by first | rfl | (simp; done) | (simp [*]; done)), (by first | rfl | (simp; done) | (simp [*]; done)), H', ⟨Nat.le_refl _⟩, ⟨by (with_reducible repeat (first | apply Kd.R_alloc | apply Kd.R_drewN | apply Kd.R_drew)); exact HO_5.out⟩, ⟨by repeat (first | (with_reducible first | exact HB.out | apply below_alloc | apply pw_below_drewN | apply below_drew1) | exact HB.out)⟩⟩
      case round =>
       clear H'
       try clear c1
       try clear p1
       try clear q1
       try clear hx1
       try clear p2
       try clear c4
       try clear c4b0
       try clear c4b1
       try clear p4
       try clear q4
       try clear hx4
       try clear c5
       try clear c5b0
       try clear c5b1
       try clear p6
       try clear c8
       try clear c8b0
       try clear c9
       try clear c9b0
       try clear c10
       try clear c11
       try clear c11b0
       try clear c12
       try clear c12b0
       try clear p15
       try clear q15
       try clear hx15
       try clear hf15
       try clear hx15_0
       try clear hx479_0
       try clear p15
       try clear p2
       try clear p479
       try clear p6
       try clear q15
       try clear q479
       obtain ⟨x8_2, x9_2, x10_2, rfl, rfl, rfl, HA, HK2, HO_5, HB⟩ := hrel
       cases gk with
       | zero => exact absurd HA.out (by simp [offcutref01_Mul.l2])
       | succ k2 =>
        have H := HA.out
        clear HA
        simp only [offcutref01_Mul.l2] at H
        by_cases c19 : x10_2 < (x5_1.length : Int)
        ·rw [if_pos c19] at H
         have c19b0 : decide (x10_2 < (x5_1.length : Int)) = true := decide_eq_true c19
         clear c19
         by_cases c20 : 0 ≤ x10_2
         ·rw [if_pos c20] at H
          have c20b0 : decide (0 ≤ x10_2) = true := decide_eq_true c20
          clear c20
          replace H := Option.bind_eq_some_iff.mp H
          obtain ⟨t484, A210, H⟩ := H
          try dsimp only at H
          have A21 := Aside0.mk A210
          clear A210
          by_cases c22 : t484.size + x8_2.size ≤ 9223372036854775807
          ·rw [if_pos c22] at H
           have c22b0 := eq_true c22
           have c22b1 : decide (t484.size + x8_2.size ≤ 9223372036854775807) = true := decide_eq_true c22
           try have c22b2 : (9223372036854775807 < t484.size + x8_2.size) = False := eq_false (Nat.not_lt.2 c22)
           have H' := Aside0.mk H
           clear H
           obtain ⟨Ao23, co23, eo23⟩ := Kd.R_slice HO_5.out
           subst eo23
           have p483 : 0 ≤ (x10_2 : Int) := of_decide_eq_true (by first | (with_reducible assumption) | assumption)
           have q483 : x10_2 < (x5_1.length : Int) := of_decide_eq_true (by first | (with_reducible assumption) | assumption)
           obtain ⟨ad483, e483, hx483_0⟩ := Kd.at_int (Kd.R_reads' HO_5.out).2.2 x10_2 p483 q483
           cases e483
           replace p483 := eq_true p483
           replace q483 := eq_true q483
           go_wp2_with (first | ((with_reducible refine gate_callee (f := 87) rfl ?_); refine Short.goesS_ (some 64) Try.func87 #[.int .i64 (Int.tmod (wrap64 ((rd x5_1 x10_2) + x9_2)) 10)] ?_; (with_reducible refine (offcutref01_sign.calls (Int.tmod (wrap64 ((rd x5_1 x10_2) + x9_2)) 10) t484 _ A21.out).mono ?_); rintro e w' ⟨rfl, ⟨nd, rfl⟩⟩; refine ⟨_, rfl, ?_⟩))
           go_roundg k2
           case measure => have := HK1.out; have := HK2.out; omega
           case rel => exact ⟨(t484 ++ x8_2), (wrap64 (Int.tdiv (wrap64 ((rd x5_1 x10_2) + x9_2)) 10)), (wrap64 (x10_2 + 1)), (by first | rfl | (simp; done) | (simp [*]; done)), (by first | rfl | (simp; done) | (simp [*]; done)), (by first | rfl | (simp; done) | (simp [*]; done)), H', ⟨by have := HK1.out; have := HK2.out; omega⟩, ⟨by (with_reducible repeat (first | apply Kd.R_alloc | apply Kd.R_drewN | apply Kd.R_drew)); exact HO_5.out⟩, ⟨by repeat (first | (with_reducible first | exact HB.out | apply below_alloc | apply pw_below_drewN | apply below_drew1) | exact HB.out)⟩⟩
          ·rw [if_neg c22] at H
           exact absurd H (by simp)
         ·rw [if_neg c20] at H
          exact absurd H (by simp)
        ·rw [if_neg c19] at H
         have c19b0 : decide (x10_2 < (x5_1.length : Int)) = false := decide_eq_false c19
         clear c19
         replace H := Option.bind_eq_some_iff.mp H
         obtain ⟨t485, A240, H⟩ := H
         replace H : (some t485) = some r := H
         have A24 := Aside0.mk A240
         clear A240
         obtain rfl := Option.some.inj H
         obtain ⟨Ao25, co25, eo25⟩ := Kd.R_slice HO_5.out
         subst eo25
         go_wp2_with (first | ((with_reducible refine gate_callee (f := 88) rfl ?_); refine Short.goesS_ (some 70) Try.func88 #[.string x8_2] ?_; (with_reducible refine (offcutref01_cut.calls k2 x8_2 t485 _ A24.out).mono ?_); rintro e w' ⟨rfl, ⟨nd, rfl⟩⟩; refine ⟨_, rfl, ?_⟩))
         go_ret
         exact ⟨by first | rfl | (simp [errW_none, errW_some] <;> rfl) | (simp only [← hji3]; first | rfl | (simp [errW_none, errW_some] <;> rfl)) | (simp [*, errW_none, errW_some] <;> rfl), by repeat (first | (with_reducible first | exact HB.out | apply below_alloc | apply pw_below_drewN | apply below_drew1) | exact HB.out)⟩
  ·rw [if_neg c5] at H
   exact absurd H (by simp)
 ·rw [if_neg c4] at H
  exact absurd H (by simp)

/-- What is carried out of the places. -/
theorem offcutref01_Mul.ev_c {s : List Nat} {V : Nat} (hs : ∀ j, s.getD j 0 ≤ 81000000000) (hl : s.length < 3000000000) (hV : Dec.dv s = V) (hVl : V < 10 ^ s.length) (d : Nat) : ∀ (out : List Nat) (c : Nat), out.length + d = s.length → Dec.Ds out → c ≤ 81000000000 →
  Dec.dv (s.take out.length) = Dec.dv out + 10 ^ out.length * c → Ev (fun k => offcutref01_Mul.l2 k (Dec.ints s) (Dec.tx out) (c : Int) (out.length : Int)) (Dec.dec V) := by
 induction d with
 | zero =>
  intro out c hd ho hc hv
  rw [List.take_of_length_le (by omega), hV, show out.length = s.length from by omega] at hv
  have hc0 : c = 0 := by
   rcases Nat.eq_zero_or_pos c with h | h
   ·exact h
   ·have := Nat.mul_le_mul_left (10 ^ s.length) h
    omega
  have hvv : Dec.dv out = V := by rw [hc0] at hv; omega
  refine Ev.step (f := fun k => (offcutref01_cut.f k (Dec.tx out)).bind fun t => some t) (fun k => ?_) ?_
  ·rw [offcutref01_Mul.l2, if_neg (by rw [Dec.ints_length]; omega)]
  ·rw [← hvv]
   exact Ev.bind (offcutref01_cut.ev ho) (Ev.now _)
 | succ d ih =>
  intro out c hd ho hc hv
  have h1 := hs out.length
  obtain ⟨p, hp⟩ : ∃ p, p = s.getD out.length 0 := ⟨_, rfl⟩
  rw [← hp] at h1
  refine Ev.step (f := fun k => offcutref01_Mul.l2 k (Dec.ints s) (Dec.tx (out ++ [(p + c) % 10])) (((p + c) / 10 : Nat) : Int) ((out.length + 1 : Nat) : Int)) (fun k => ?_) ?_
  ·rw [offcutref01_Mul.l2, if_pos (by rw [Dec.ints_length]; omega), if_pos (by omega), Dec.rd_ints, ← hp, Dec.w64a _ _ (by omega), Dec.tmod10, Dec.tdiv10, offcutref01_sign.sem _ (Nat.mod_lt _ (by omega)), Option.bind_some, Dec.tx_append, Dec.tx_size, Dec.tx_size, if_pos (by rw [List.length_singleton]; omega), Dec.w64n _ (by omega), Dec.w64s _ (by omega)]
  ·have := ih (out ++ [(p + c) % 10]) ((p + c) / 10) (by rw [List.length_append, List.length_singleton]; omega) (ho.snoc (Nat.mod_lt _ (by omega))) (by omega) (by
    rw [List.length_append, List.length_singleton, Dec.dv_take_succ, ← hp, Dec.dv_snoc, Nat.pow_succ]
    have h3 : 10 ^ out.length * (p + c) = 10 ^ out.length * ((p + c) % 10 + 10 * ((p + c) / 10)) := by congr 1; omega
    rw [Nat.mul_add, Nat.mul_add, ← Nat.mul_assoc] at h3
    omega)
   rw [List.length_append, List.length_singleton] at this
   exact this
/-- One row of the product; then what follows (K). -/
theorem offcutref01_Mul.ev_r {a b : List Nat} (ha : Dec.Ds a) (hb : Dec.Ds b) (la : a.length < 1000000000) (lb : b.length < 1000000000) {r : ByteArray} {i : Nat} (hi : i < a.length) (M : Nat)
  (next : ∀ s : List Nat, s.length = a.length + b.length + 1 → (∀ j, s.getD j 0 ≤ 81 * (i + 1)) → Dec.dv s = M + 10 ^ i * (a.getD i 0 * Dec.dv b) → Ev (fun k => offcutref01_Mul.l0 k (Dec.tx a) (Dec.tx b) (Dec.ints s) ((i + 1 : Nat) : Int)) r) (d : Nat) : ∀ (s : List Nat) (q : Nat), q + d = b.length → s.length = a.length + b.length + 1 → (∀ j, s.getD j 0 ≤ 81 * (i + 1)) → (∀ j, i + q ≤ j → s.getD j 0 ≤ 81 * i) →
  Dec.dv s = M + 10 ^ i * (a.getD i 0 * Dec.dv (b.take q)) → Ev (fun k => offcutref01_Mul.l1 k (Dec.tx a) (Dec.tx b) (Dec.ints s) (i : Int) (q : Int)) r := by
 induction d with
 | zero =>
  intro s q hd hl h1 h2 hv
  refine Ev.step (f := fun k => offcutref01_Mul.l0 k (Dec.tx a) (Dec.tx b) (Dec.ints s) ((i + 1 : Nat) : Int)) (fun k => ?_) (next s hl h1 ?_)
  ·rw [offcutref01_Mul.l1, Dec.tx_size, if_neg (by omega), Dec.w64s _ (by omega)]
  ·rw [List.take_of_length_le (by omega)] at hv
   exact hv
 | succ d ih =>
  intro s q hd hl h1 h2 hv
  have g1 := ha.getD i
  have g2 := hb.getD q
  obtain ⟨x, hx⟩ : ∃ x, x = a.getD i 0 := ⟨_, rfl⟩
  obtain ⟨y, hy⟩ : ∃ y, y = b.getD q 0 := ⟨_, rfl⟩
  rw [← hx] at g1
  rw [← hy] at g2
  have hxy : x * y ≤ 81 := Nat.mul_le_mul (show x ≤ 9 from by omega) (show y ≤ 9 from by omega)
  have hp := h2 (i + q) (Nat.le_refl _)
  refine Ev.step (f := fun k => offcutref01_Mul.l1 k (Dec.tx a) (Dec.tx b) (Dec.ints (s.set (i + q) (s.getD (i + q) 0 + x * y))) (i : Int) ((q + 1 : Nat) : Int)) (fun k => ?_) ?_
  ·rw [offcutref01_Mul.l1, Dec.tx_size, if_pos (by omega), Dec.w64a _ _ (by omega), if_pos (by omega), if_pos (by rw [Dec.ints_length]; omega), offcutref01_at.sem ha (by omega), offcutref01_at.sem hb (by omega), Option.bind_some, Option.bind_some, ← hx, ← hy, Dec.rd_ints, Int.toNat_natCast, Dec.w64m _ _ (by omega), Dec.w64a _ _ (by omega), Dec.ints_set, Dec.w64s _ (by omega)]
  ·refine ih _ (q + 1) (by omega) (by rw [List.length_set]; exact hl) (fun j => ?_) (fun j hj => ?_) ?_
   ·rw [Dec.getD_set]
    split
    ·omega
    ·exact h1 j
   ·rw [Dec.getD_set, if_neg (by omega)]
    exact h2 j (by omega)
   ·rw [Dec.dv_set _ _ (by omega), hv, Dec.dv_take_succ, ← hx, ← hy, Nat.mul_add, Nat.mul_add, Nat.pow_add]
    have : 10 ^ i * (x * (10 ^ q * y)) = 10 ^ i * 10 ^ q * (x * y) := by rw [Nat.mul_left_comm x, Nat.mul_assoc]
    omega
theorem offcutref01_Mul.ev_l {a b : List Nat} (ha : Dec.Ds a) (hb : Dec.Ds b) (la : a.length < 1000000000) (lb : b.length < 1000000000) (d : Nat) : ∀ (s : List Nat) (i : Nat), i + d = a.length → s.length = a.length + b.length + 1 → (∀ j, s.getD j 0 ≤ 81 * i) → Dec.dv s = Dec.dv (a.take i) * Dec.dv b →
  Ev (fun k => offcutref01_Mul.l0 k (Dec.tx a) (Dec.tx b) (Dec.ints s) (i : Int)) (Dec.dec (Dec.dv a * Dec.dv b)) := by
 induction d with
 | zero =>
  intro s i hd hl h1 hv
  refine Ev.step (f := fun k => offcutref01_Mul.l2 k (Dec.ints s) (Dec.tx []) ((0 : Nat) : Int) ((([] : List Nat).length : Nat) : Int)) (fun k => ?_) ?_
  ·rw [offcutref01_Mul.l0, Dec.tx_size, if_neg (by omega)]
   rfl
  ·rw [List.take_of_length_le (by omega)] at hv
   refine offcutref01_Mul.ev_c (fun j => Nat.le_trans (h1 j) (by omega)) (by omega) hv ?_ s.length [] 0 (by rw [List.length_nil]; omega) Dec.Ds.nil (by omega) (by rw [List.length_nil, List.take_zero]; rfl)
   rw [hl, Nat.pow_succ, Nat.pow_add]
   have h2 := Nat.mul_le_mul (Nat.le_of_lt (Dec.dv_lt ha)) (Nat.le_of_lt (Dec.dv_lt hb))
   have h3 : 0 < 10 ^ a.length * 10 ^ b.length := Nat.mul_pos (Nat.pow_pos (by omega)) (Nat.pow_pos (by omega))
   omega
 | succ d ih =>
  intro s i hd hl h1 hv
  refine Ev.step (f := fun k => offcutref01_Mul.l1 k (Dec.tx a) (Dec.tx b) (Dec.ints s) (i : Int) ((0 : Nat) : Int)) (fun k => ?_) ?_
  ·rw [offcutref01_Mul.l0, Dec.tx_size, if_pos (by omega)]
   rfl
  ·refine offcutref01_Mul.ev_r ha hb la lb (by omega) (Dec.dv s) (fun s' hl' h1' hv' => ?_) b.length s 0 (by omega) hl (fun j => Nat.le_trans (h1 j) (by omega)) (fun j _ => h1 j) (by rw [List.take_zero, Dec.dv]; omega)
   refine ih s' (i + 1) (by omega) hl' h1' ?_
   rw [hv', hv, Dec.dv_take_succ, Nat.add_mul, Nat.mul_assoc]
theorem offcutref01_Mul.ev {a b : List Nat} (ha : Dec.Ds a) (hb : Dec.Ds b) (la : a.length < 1000000000) (lb : b.length < 1000000000) : Ev (fun k => offcutref01_Mul.f k (Dec.tx a) (Dec.tx b)) (Dec.dec (Dec.dv a * Dec.dv b)) := by
 have := offcutref01_Mul.ev_l ha hb la lb a.length (List.replicate (a.length + b.length + 1) 0) 0 (by omega) (List.length_replicate) (fun j => by rw [List.getD_eq_getElem?_getD, List.getElem?_replicate]; split <;> simp) (by rw [Dec.dv_zeros, List.take_zero, Dec.dv, Nat.zero_mul])
 refine Ev.congr (fun k => ?_) this
 unfold offcutref01_Mul.f
 rw [Dec.tx_size, Dec.tx_size, Dec.w64a _ _ (by omega), Dec.w64s _ (by omega), if_pos (by omega), Int.toNat_natCast, if_pos (by omega), Dec.ints_zeros]
 rfl
set_option synthInstance.checkSynthOrder false in
open Lin in
instance offcutref01_Mul.t {k : Nat} {a0 : ByteArray} {a1 : ByteArray} {r : ByteArray} [h : Ans (offcutref01_Mul.f k a0 a1) r] : Tl Try.prog 82 [.one (.val (.string a0)), .one (.val (.string a1))] (.el (.one (.val (.string r)))) := ⟨Tells.of Try.func82 fun out w vs ho hl hv => by
 obtain ⟨u0, u1, rfl, h0, h1⟩ := args2 hl hv
 obtain rfl := h0.1
 obtain rfl := h1.1
 refine (offcutref01_Mul.calls k a0 a1 _ w h.out).mono ?_
 rintro e w' ⟨rfl, hb⟩
 exact ⟨_, rfl, ⟨rfl, rfl⟩, hb⟩⟩
mutual
def offcutref01_Add.l0 : Nat → ByteArray → ByteArray → ByteArray → Int → Int → Option (ByteArray)
 | 0, _, _, _, _, _ => none
 | k + 1, x0, x1, x5, x6, x7 => if x7 ≤ (x0.size : Int) then (offcutref01_Add.j1 k x0 x1 x5 x6 x7 true) else (offcutref01_Add.j1 k x0 x1 x5 x6 x7 (decide (x7 ≤ (x1.size : Int))))
def offcutref01_Add.j1 : Nat → ByteArray → ByteArray → ByteArray → Int → Int → Bool → Option (ByteArray)
 | 0, _, _, _, _, _, _ => none
 | k + 1, x0, x1, x5, x6, x7, x18 => if x18 = true then ((offcutref01_at.f x0 x7).bind fun t486 => ((offcutref01_at.f x1 x7).bind fun t487 => ((offcutref01_sign.f (Int.tmod (wrap64 ((wrap64 (t486 + t487)) + x6)) 10)).bind fun t488 => (if t488.size + x5.size ≤ 9223372036854775807 then (offcutref01_Add.l0 k x0 x1 (t488 ++ x5) (wrap64 (Int.tdiv (wrap64 ((wrap64 (t486 + t487)) + x6)) 10)) (wrap64 (x7 + 1))) else (none))))) else ((offcutref01_cut.f k x5).bind fun t489 => (some t489))
end
def offcutref01_Add.f (k : Nat) (a0 : ByteArray) (a1 : ByteArray) : Option (ByteArray) := offcutref01_Add.l0 k a0 a1 (⟨#[]⟩ : ByteArray) 0 0
set_option maxHeartbeats 8000000 in
set_option maxRecDepth 100000 in
theorem offcutref01_Add.calls (k : Nat) (a0 : ByteArray) (a1 : ByteArray) (r : ByteArray) (w : World) (h : offcutref01_Add.f k a0 a1 = some r) :
  Calls Try.prog 84 #[.string a0, .string a1] w fun e w' => e = .returned (.string r) ∧ Drawn0 w w' := by
 have H : (offcutref01_Add.l0 k a0 a1 (⟨#[]⟩ : ByteArray) 0 0) = some r := h
 clear h
 have H' := Aside0.mk H
 clear H
 go_enter Try.func84, Try.ntmps84
 go_wp2
 go_loopg [5, 6, 7] k (fun kq v5 v6 v7 w' => ∃ (x5_1 : ByteArray) (x6_1 : Int) (x7_1 : Int), v5 = .string x5_1 ∧ v6 = .int .i64 x6_1 ∧ v7 = .int .i64 x7_1 ∧ Aside0 (offcutref01_Add.l0 kq a0 a1 x5_1 x6_1 x7_1 = some r) ∧ Aside0 (kq ≤ k) ∧ Drawn0 w w')
 case atStart => exact ⟨((⟨#[]⟩ : ByteArray)), (0), (0), (by first | rfl | (simp; done) | (simp [*]; done)), (by first | rfl | (simp; done) | (simp [*]; done)), (by first | rfl | (simp; done) | (simp [*]; done)), H', ⟨Nat.le_refl _⟩, by repeat (first | exact Drawn0.refl _ | apply Drawn0.step)⟩
 case round =>
  clear H'
  try clear p2
  obtain ⟨x5_1, x6_1, x7_1, rfl, rfl, rfl, HA, HK1, ⟨m1, rfl⟩⟩ := hrel
  cases gk with
  | zero => exact absurd HA.out (by simp [offcutref01_Add.l0])
  | succ k1 =>
   have H := HA.out
   clear HA
   simp only [offcutref01_Add.l0] at H
   have HC3 := Aside0.mk H
   clear H
   go_upto_region 4 with (fail)
   go_cut [18] (fun v18 wc => ∃ (kq : Nat) (x18_2 : Bool), v18 = .bool x18_2 ∧ Aside0 (offcutref01_Add.j1 kq a0 a1 x5_1 x6_1 x7_1 x18_2 = some r) ∧ Aside0 (kq ≤ k1) ∧ Drawn0 w wc)
   case first =>
    have H := HC3.out
    clear HC3
    by_cases c4 : x7_1 ≤ (a0.size : Int)
    ·rw [if_pos c4] at H
     have c4b0 : decide (x7_1 ≤ (a0.size : Int)) = true := decide_eq_true c4
     clear c4
     (first | rw [c4b0] | (simp only [i64_w, i32_w]; rw [c4b0]) | skip)
     have H' := Aside0.mk H
     clear H
     go_wp2
     go_meet
     case rel => exact ⟨_, (true), (by first | rfl | (simp; done) | (simp [*]; done)), H', ⟨by have := HK1.out; first | omega | exact Nat.le_refl _⟩, by repeat (first | exact Drawn0.refl _ | apply Drawn0.step)⟩
    ·rw [if_neg c4] at H
     have c4b0 : decide (x7_1 ≤ (a0.size : Int)) = false := decide_eq_false c4
     clear c4
     (first | rw [c4b0] | (simp only [i64_w, i32_w]; rw [c4b0]) | skip)
     have H' := Aside0.mk H
     clear H
     go_wp2
     go_meet
     case rel => exact ⟨_, (decide (x7_1 ≤ (a1.size : Int))), (by first | rfl | (simp; done) | (simp [*]; done)), H', ⟨by have := HK1.out; first | omega | exact Nat.le_refl _⟩, by repeat (first | exact Drawn0.refl _ | apply Drawn0.step)⟩
   case rest =>
    clear HC3
    try clear p2
    try clear c4
    try clear c4b0
    try clear p2
    obtain ⟨kq, x18_2, rfl, HA, HJ2, ⟨mc2, rfl⟩⟩ := hcut
    cases kq with
    | zero => exact absurd HA.out (by simp [offcutref01_Add.j1])
    | succ kj2 =>
     have H := HA.out
     clear HA
     simp only [offcutref01_Add.j1] at H
     by_cases c5 : x18_2 = true
     ·subst c5
      have H1 : ((offcutref01_at.f a0 x7_1).bind fun t486 => ((offcutref01_at.f a1 x7_1).bind fun t487 => ((offcutref01_sign.f (Int.tmod (wrap64 ((wrap64 (t486 + t487)) + x6_1)) 10)).bind fun t488 => (if t488.size + x5_1.size ≤ 9223372036854775807 then (offcutref01_Add.l0 kj2 a0 a1 (t488 ++ x5_1) (wrap64 (Int.tdiv (wrap64 ((wrap64 (t486 + t487)) + x6_1)) 10)) (wrap64 (x7_1 + 1))) else (none))))) = some r := by rw [if_pos rfl] at H; exact H
      clear H
      have H := H1
      clear H1
      replace H := Option.bind_eq_some_iff.mp H
      obtain ⟨t486, A60, H⟩ := H
      try dsimp only at H
      have A6 := Aside0.mk A60
      clear A60
      replace H := Option.bind_eq_some_iff.mp H
      obtain ⟨t487, A70, H⟩ := H
      try dsimp only at H
      have A7 := Aside0.mk A70
      clear A70
      replace H := Option.bind_eq_some_iff.mp H
      obtain ⟨t488, A80, H⟩ := H
      try dsimp only at H
      have A8 := Aside0.mk A80
      clear A80
      by_cases c9 : t488.size + x5_1.size ≤ 9223372036854775807
      ·rw [if_pos c9] at H
       have c9b0 := eq_true c9
       have c9b1 : decide (t488.size + x5_1.size ≤ 9223372036854775807) = true := decide_eq_true c9
       try have c9b2 : (9223372036854775807 < t488.size + x5_1.size) = False := eq_false (Nat.not_lt.2 c9)
       have H' := Aside0.mk H
       clear H
       go_wp2_with (first | ((with_reducible refine gate_callee (f := 101) rfl ?_); refine Short.goesS_ (some 23) Try.func101 #[.string a0, .int .i64 x7_1] ?_; (with_reducible refine (offcutref01_at.calls a0 x7_1 t486 _ A6.out).mono ?_); rintro e w' ⟨rfl, ⟨nd, rfl⟩⟩; refine ⟨_, rfl, ?_⟩) | ((with_reducible refine gate_callee (f := 101) rfl ?_); refine Short.goesS_ (some 26) Try.func101 #[.string a1, .int .i64 x7_1] ?_; (with_reducible refine (offcutref01_at.calls a1 x7_1 t487 _ A7.out).mono ?_); rintro e w' ⟨rfl, ⟨nd, rfl⟩⟩; refine ⟨_, rfl, ?_⟩) | ((with_reducible refine gate_callee (f := 87) rfl ?_); refine Short.goesS_ (some 32) Try.func87 #[.int .i64 (Int.tmod (wrap64 ((wrap64 (t486 + t487)) + x6_1)) 10)] ?_; (with_reducible refine (offcutref01_sign.calls (Int.tmod (wrap64 ((wrap64 (t486 + t487)) + x6_1)) 10) t488 _ A8.out).mono ?_); rintro e w' ⟨rfl, ⟨nd, rfl⟩⟩; refine ⟨_, rfl, ?_⟩))
       go_roundg kj2
       case measure => have := HK1.out; have := HJ2.out; omega
       case rel => exact ⟨(t488 ++ x5_1), (wrap64 (Int.tdiv (wrap64 ((wrap64 (t486 + t487)) + x6_1)) 10)), (wrap64 (x7_1 + 1)), (by first | rfl | (simp; done) | (simp [*]; done)), (by first | rfl | (simp; done) | (simp [*]; done)), (by first | rfl | (simp; done) | (simp [*]; done)), H', ⟨by have := HK1.out; have := HJ2.out; omega⟩, by repeat (first | exact Drawn0.refl _ | apply Drawn0.step)⟩
      ·rw [if_neg c9] at H
       exact absurd H (by simp)
     ·replace c5 := Bool.eq_false_iff.mpr c5
      subst c5
      have H1 : ((offcutref01_cut.f kj2 x5_1).bind fun t489 => (some t489)) = some r := by rw [if_neg (show ¬ (false = true) by decide)] at H; exact H
      clear H
      have H := H1
      clear H1
      replace H := Option.bind_eq_some_iff.mp H
      obtain ⟨t489, A100, H⟩ := H
      replace H : (some t489) = some r := H
      have A10 := Aside0.mk A100
      clear A100
      obtain rfl := Option.some.inj H
      go_wp2_with (first | ((with_reducible refine gate_callee (f := 88) rfl ?_); refine Short.goesS_ (some 38) Try.func88 #[.string x5_1] ?_; (with_reducible refine (offcutref01_cut.calls kj2 x5_1 t489 _ A10.out).mono ?_); rintro e w' ⟨rfl, ⟨nd, rfl⟩⟩; refine ⟨_, rfl, ?_⟩))
      go_ret
      exact ⟨by first | rfl | (simp; done) | (simp [*]; done), by repeat (first | exact Drawn0.refl _ | apply Drawn0.step)⟩

theorem offcutref01_Add.l0_eq (k : Nat) {a b : List Nat} (x5 : ByteArray) (x6 : Int) (j : Nat) : offcutref01_Add.l0 (k + 1) (Dec.tx a) (Dec.tx b) x5 x6 (j : Int) = offcutref01_Add.j1 k (Dec.tx a) (Dec.tx b) x5 x6 (j : Int) (decide (j ≤ a.length ∨ j ≤ b.length)) := by
 rw [offcutref01_Add.l0, Dec.tx_size, Dec.tx_size]
 by_cases h : j ≤ a.length
 ·rw [if_pos (by omega), decide_eq_true (.inl h)]
 ·rw [if_neg (by omega)]
  rw [show decide ((j : Int) ≤ (b.length : Int)) = decide (j ≤ a.length ∨ j ≤ b.length) from decide_eq_decide.2 (by omega)]
theorem offcutref01_Add.ev_l {a b : List Nat} (ha : Dec.Ds a) (hb : Dec.Ds b) (la : a.length < 1000000000) (lb : b.length < 1000000000) (d : Nat) : ∀ (out : List Nat) (c : Nat), out.length + d = max a.length b.length + 1 → Dec.Ds out → c ≤ 1 →
  Dec.dv (a.take out.length) + Dec.dv (b.take out.length) = Dec.dv out + 10 ^ out.length * c → Ev (fun k => offcutref01_Add.l0 k (Dec.tx a) (Dec.tx b) (Dec.tx out) (c : Int) (out.length : Int)) (Dec.dec (Dec.dv a + Dec.dv b)) := by
 induction d with
 | zero =>
  intro out c hd ho hc hv
  have h1 := Dec.dv_lt ha
  have h2 := Dec.dv_lt hb
  obtain ⟨m, hm⟩ : ∃ m, out.length = m + 1 := ⟨max a.length b.length, by omega⟩
  have h3 : 10 ^ a.length ≤ 10 ^ m := Nat.pow_le_pow_right (by omega) (by omega)
  have h4 : 10 ^ b.length ≤ 10 ^ m := Nat.pow_le_pow_right (by omega) (by omega)
  rw [List.take_of_length_le (by omega), List.take_of_length_le (by omega), hm, Nat.pow_succ] at hv
  have hc0 : c = 0 := by
   rcases Nat.eq_zero_or_pos c with h | h
   ·exact h
   ·obtain rfl : c = 1 := by omega
    omega
  subst hc0
  have hvv : Dec.dv out = Dec.dv a + Dec.dv b := by omega
  refine Ev.step (f := fun k => offcutref01_Add.j1 k (Dec.tx a) (Dec.tx b) (Dec.tx out) ((0 : Nat) : Int) (out.length : Int) false) (fun k => ?_) ?_
  ·rw [offcutref01_Add.l0_eq, decide_eq_false (by omega)]
  ·refine Ev.step (f := fun k => (offcutref01_cut.f k (Dec.tx out)).bind fun t => some t) (fun k => ?_) ?_
   ·rw [offcutref01_Add.j1, if_neg (by simp)]
   ·rw [← hvv]
    exact Ev.bind (offcutref01_cut.ev ho) (Ev.now _)
 | succ d ih =>
  intro out c hd ho hc hv
  have h1 := ha.getD out.length
  have h2 := hb.getD out.length
  obtain ⟨p, hp⟩ : ∃ p, p = a.getD out.length 0 := ⟨_, rfl⟩
  obtain ⟨q, hq⟩ : ∃ q, q = b.getD out.length 0 := ⟨_, rfl⟩
  refine Ev.step (f := fun k => offcutref01_Add.j1 k (Dec.tx a) (Dec.tx b) (Dec.tx out) (c : Int) (out.length : Int) true) (fun k => ?_) ?_
  ·rw [offcutref01_Add.l0_eq, decide_eq_true (by omega)]
  ·refine Ev.step (f := fun k => offcutref01_Add.l0 k (Dec.tx a) (Dec.tx b) (Dec.tx (out ++ [(p + q + c) % 10])) (((p + q + c) / 10 : Nat) : Int) ((out.length + 1 : Nat) : Int)) (fun k => ?_) ?_
   ·rw [offcutref01_Add.j1, if_pos rfl, offcutref01_at.sem ha (by omega), offcutref01_at.sem hb (by omega), ← hp, ← hq]
    rw [Option.bind_some, Option.bind_some, Dec.w64a _ _ (by omega), Dec.w64a _ _ (by omega), Dec.tmod10, Dec.tdiv10, offcutref01_sign.sem _ (Nat.mod_lt _ (by omega)), Option.bind_some, Dec.tx_append, Dec.tx_size, Dec.tx_size, if_pos (by rw [List.length_singleton]; omega), Dec.w64n _ (by omega), Dec.w64s _ (by omega)]
   ·have := ih (out ++ [(p + q + c) % 10]) ((p + q + c) / 10) (by rw [List.length_append, List.length_singleton]; omega) (ho.snoc (Nat.mod_lt _ (by omega))) (by omega) (by
     rw [List.length_append, List.length_singleton, Dec.dv_take_succ, Dec.dv_take_succ, ← hp, ← hq, Dec.dv_snoc, Nat.pow_succ]
     have h3 : 10 ^ out.length * (p + q + c) = 10 ^ out.length * ((p + q + c) % 10 + 10 * ((p + q + c) / 10)) := by congr 1; omega
     rw [Nat.mul_add, Nat.mul_add, Nat.mul_add, ← Nat.mul_assoc] at h3
     omega)
    rw [List.length_append, List.length_singleton] at this
    exact this
theorem offcutref01_Add.ev {a b : List Nat} (ha : Dec.Ds a) (hb : Dec.Ds b) (la : a.length < 1000000000) (lb : b.length < 1000000000) : Ev (fun k => offcutref01_Add.f k (Dec.tx a) (Dec.tx b)) (Dec.dec (Dec.dv a + Dec.dv b)) :=
 offcutref01_Add.ev_l ha hb la lb (max a.length b.length + 1) [] 0 (by rw [List.length_nil]; omega) Dec.Ds.nil (by omega) (by rw [List.length_nil, List.take_zero, List.take_zero]; rfl)
set_option synthInstance.checkSynthOrder false in
open Lin in
instance offcutref01_Add.t {k : Nat} {a0 : ByteArray} {a1 : ByteArray} {r : ByteArray} [h : Ans (offcutref01_Add.f k a0 a1) r] : Tl Try.prog 84 [.one (.val (.string a0)), .one (.val (.string a1))] (.el (.one (.val (.string r)))) := ⟨Tells.of Try.func84 fun out w vs ho hl hv => by
 obtain ⟨u0, u1, rfl, h0, h1⟩ := args2 hl hv
 obtain rfl := h0.1
 obtain rfl := h1.1
 refine (offcutref01_Add.calls k a0 a1 _ w h.out).mono ?_
 rintro e w' ⟨rfl, hb⟩
 exact ⟨_, rfl, ⟨rfl, rfl⟩, below_of_drawn hb⟩⟩
mutual
def offcutref01_Of.l0 : Nat → List Int → ByteArray → Int → Option (ByteArray)
 | 0, _, _, _ => none
 | k + 1, x0, x3, x4 => if x4 ≥ 0 then ((offcutref01_Mul.f k x3 (⟨#[52, 50, 57, 52, 57, 54, 55, 50, 57, 54]⟩ : ByteArray)).bind fun t490 => (if 0 ≤ x4 then (if x4 < (x0.length : Int) then (offcutref01_Of.l1 k x0 t490 x4 (rd x0 x4) (⟨#[]⟩ : ByteArray)) else (none)) else (none))) else (some x3)
def offcutref01_Of.l1 : Nat → List Int → ByteArray → Int → Int → ByteArray → Option (ByteArray)
 | 0, _, _, _, _, _ => none
 | k + 1, x0, x3, x4, x5, x6 => if x5 > 0 then ((offcutref01_sign.f (wrap64 (Int.tmod x5 10))).bind fun t492 => (if t492.size + x6.size ≤ 9223372036854775807 then (offcutref01_Of.l1 k x0 x3 x4 ((Int.tdiv x5 10) % 4294967296) (t492 ++ x6)) else (none))) else ((offcutref01_cut.f k x6).bind fun t493 => ((offcutref01_Add.f k x3 t493).bind fun t494 => (offcutref01_Of.l0 k x0 t494 (wrap64 (x4 - 1)))))
end
def offcutref01_Of.f (k : Nat) (l0 : List Int) : Option (ByteArray) := offcutref01_Of.l0 k l0 (⟨#[48]⟩ : ByteArray) (wrap64 ((l0.length : Int) - 1))
set_option maxHeartbeats 8000000 in
set_option maxRecDepth 100000 in
theorem offcutref01_Of.calls (k : Nat) (A0 : Option Addr) (c0 : Nat) (l0 : List Int) (r : ByteArray) (w : World) (hr0 : Kd.C (Kd.int .u32) w A0 l0.length l0) (hc0 : l0.length ≤ c0) (h : offcutref01_Of.f k l0 = some r) :
  Calls Try.prog 60 #[.slice A0 l0.length c0] w fun e w' => e = .returned (.string r) ∧ Below w.heap.size w w' := by
 have HR0 := Aside0.mk hr0
 have HC0 := Aside0.mk hc0
 clear hr0 hc0
 have HB := Aside0.mk (Below.refl w.heap.size w)
 have H : (offcutref01_Of.l0 k l0 (⟨#[48]⟩ : ByteArray) (wrap64 ((l0.length : Int) - 1))) = some r := h
 clear h
 have H' := Aside0.mk H
 clear H
 go_enter Try.func60, Try.ntmps60
 go_wp2
 go_loopg [3, 4] k (fun kq v3 v4 w' => ∃ (x3_1 : ByteArray) (x4_1 : Int), v3 = .string x3_1 ∧ v4 = .int .i64 x4_1 ∧ Aside0 (offcutref01_Of.l0 kq l0 x3_1 x4_1 = some r) ∧ Aside0 (kq ≤ k) ∧ Aside0 (Below w.heap.size w w'))
 case atStart => exact ⟨((⟨#[48]⟩ : ByteArray)), (wrap64 ((l0.length : Int) - 1)), (by first | rfl | (simp; done) | (simp [*]; done)), (by first | rfl | (simp; done) | (simp [*]; done)), H', ⟨Nat.le_refl _⟩, ⟨by repeat (first | (with_reducible first | exact HB.out | apply below_alloc | apply pw_below_drewN | apply below_drew1) | exact HB.out)⟩⟩
 case round =>
  clear H'
  obtain ⟨x3_1, x4_1, rfl, rfl, HA, HK1, HB⟩ := hrel
  cases gk with
  | zero => exact absurd HA.out (by simp [offcutref01_Of.l0])
  | succ k1 =>
   have H := HA.out
   clear HA
   simp only [offcutref01_Of.l0] at H
   by_cases c2 : x4_1 ≥ 0
   ·rw [if_pos c2] at H
    have c2b0 : decide (0 ≤ x4_1) = true := decide_eq_true c2
    clear c2
    replace H := Option.bind_eq_some_iff.mp H
    obtain ⟨t490, A30, H⟩ := H
    try dsimp only at H
    have A3 := Aside0.mk A30
    clear A30
    by_cases c4 : 0 ≤ x4_1
    ·rw [if_pos c4] at H
     have c4b0 : decide (0 ≤ x4_1) = true := decide_eq_true c4
     clear c4
     by_cases c5 : x4_1 < (l0.length : Int)
     ·rw [if_pos c5] at H
      have c5b0 : decide (x4_1 < (l0.length : Int)) = true := decide_eq_true c5
      clear c5
      have H' := Aside0.mk H
      clear H
      go_wp2_with (first | ((with_reducible refine gate_callee (f := 82) rfl ?_); refine Short.goesS_ (some 15) Try.func82 #[.string x3_1, .string (⟨#[52, 50, 57, 52, 57, 54, 55, 50, 57, 54]⟩ : ByteArray)] ?_; (with_reducible refine (offcutref01_Mul.calls k1 x3_1 (⟨#[52, 50, 57, 52, 57, 54, 55, 50, 57, 54]⟩ : ByteArray) t490 _ A3.out).mono ?_); rintro e w6 ⟨rfl, hb⟩; refine ⟨_, rfl, ?_⟩; replace HB := Aside0.mk (below_step (by repeat (first | (with_reducible first | exact HB.out | apply below_alloc | apply pw_below_drewN | apply below_drew1) | exact HB.out)) hb); (try clear hb); have p491 : 0 ≤ (x4_1 : Int) := of_decide_eq_true (by first | (with_reducible assumption) | assumption); have q491 : x4_1 < (l0.length : Int) := of_decide_eq_true (by first | (with_reducible assumption) | assumption); obtain ⟨ad491, e491, hx491_0⟩ := Kd.at_int HR0.out x4_1 p491 q491; cases e491; replace hx491_0 := (HB.out.cell (World.block_lt_of_cell? w _ hx491_0)).trans hx491_0; replace p491 := eq_true p491; replace q491 := eq_true q491))
      go_loopg [5, 6] k1 (fun kq v5 v6 w' => ∃ (x5_2 : Int) (x6_2 : ByteArray), v5 = .int .u32 x5_2 ∧ v6 = .string x6_2 ∧ Aside0 (offcutref01_Of.l1 kq l0 t490 x4_1 x5_2 x6_2 = some r) ∧ Aside0 (kq ≤ k1) ∧ Aside0 (Below w.heap.size w w'))
      case atStart => exact ⟨(rd l0 x4_1), ((⟨#[]⟩ : ByteArray)), (by first | rfl | (simp; done) | (simp [*]; done)), (by first | rfl | (simp; done) | (simp [*]; done)), H', ⟨Nat.le_refl _⟩, ⟨by repeat (first | (with_reducible first | exact HB.out | apply below_alloc | apply pw_below_drewN | apply below_drew1) | exact HB.out)⟩⟩
      case round =>
       clear H'
       try clear c2
       try clear c2b0
       try clear p2
       try clear c4
       try clear c4b0
       try clear p4
       try clear q4
       try clear hx4
       try clear c5
       try clear c5b0
       try clear c6
       try clear p6
       try clear hx491_0
       try clear p491
       try clear q491
       obtain ⟨x5_2, x6_2, rfl, rfl, HA, HK2, HB⟩ := hrel
       cases gk with
       | zero => exact absurd HA.out (by simp [offcutref01_Of.l1])
       | succ k2 =>
        have H := HA.out
        clear HA
        simp only [offcutref01_Of.l1] at H
        by_cases c7 : x5_2 > 0
        ·rw [if_pos c7] at H
         have c7b0 : decide (0 < x5_2) = true := decide_eq_true c7
         clear c7
         replace H := Option.bind_eq_some_iff.mp H
         obtain ⟨t492, A80, H⟩ := H
         try dsimp only at H
         have A8 := Aside0.mk A80
         clear A80
         by_cases c9 : t492.size + x6_2.size ≤ 9223372036854775807
         ·rw [if_pos c9] at H
          have c9b0 := eq_true c9
          have c9b1 : decide (t492.size + x6_2.size ≤ 9223372036854775807) = true := decide_eq_true c9
          try have c9b2 : (9223372036854775807 < t492.size + x6_2.size) = False := eq_false (Nat.not_lt.2 c9)
          have H' := Aside0.mk H
          clear H
          go_wp2_with (first | ((with_reducible refine gate_callee (f := 87) rfl ?_); refine Short.goesS_ (some 25) Try.func87 #[.int .i64 (wrap64 (Int.tmod x5_2 10))] ?_; (with_reducible refine (offcutref01_sign.calls (wrap64 (Int.tmod x5_2 10)) t492 _ A8.out).mono ?_); rintro e w' ⟨rfl, ⟨nd, rfl⟩⟩; refine ⟨_, rfl, ?_⟩))
          go_roundg k2
          case measure => have := HK1.out; have := HK2.out; omega
          case rel => exact ⟨((Int.tdiv x5_2 10) % 4294967296), (t492 ++ x6_2), (by first | rfl | (simp; done) | (simp [*]; done)), (by first | rfl | (simp; done) | (simp [*]; done)), H', ⟨by have := HK1.out; have := HK2.out; omega⟩, ⟨by repeat (first | (with_reducible first | exact HB.out | apply below_alloc | apply pw_below_drewN | apply below_drew1) | exact HB.out)⟩⟩
         ·rw [if_neg c9] at H
          exact absurd H (by simp)
        ·rw [if_neg c7] at H
         have c7b0 : decide (0 < x5_2) = false := decide_eq_false c7
         clear c7
         replace H := Option.bind_eq_some_iff.mp H
         obtain ⟨t493, A100, H⟩ := H
         try dsimp only at H
         have A10 := Aside0.mk A100
         clear A100
         replace H := Option.bind_eq_some_iff.mp H
         obtain ⟨t494, A110, H⟩ := H
         try dsimp only at H
         have A11 := Aside0.mk A110
         clear A110
         have H' := Aside0.mk H
         clear H
         go_wp2_with (first | ((with_reducible refine gate_callee (f := 88) rfl ?_); refine Short.goesS_ (some 32) Try.func88 #[.string x6_2] ?_; (with_reducible refine (offcutref01_cut.calls k2 x6_2 t493 _ A10.out).mono ?_); rintro e w' ⟨rfl, ⟨nd, rfl⟩⟩; refine ⟨_, rfl, ?_⟩) | ((with_reducible refine gate_callee (f := 84) rfl ?_); refine Short.goesS_ (some 33) Try.func84 #[.string t490, .string t493] ?_; (with_reducible refine (offcutref01_Add.calls k2 t490 t493 t494 _ A11.out).mono ?_); rintro e w' ⟨rfl, ⟨nd, rfl⟩⟩; refine ⟨_, rfl, ?_⟩))
         go_roundg k2
         case measure => have := HK1.out; have := HK2.out; omega
         case rel => exact ⟨(t494), (wrap64 (x4_1 - 1)), (by first | rfl | (simp; done) | (simp [*]; done)), (by first | rfl | (simp; done) | (simp [*]; done)), H', ⟨by have := HK1.out; have := HK2.out; omega⟩, ⟨by repeat (first | (with_reducible first | exact HB.out | apply below_alloc | apply pw_below_drewN | apply below_drew1) | exact HB.out)⟩⟩
     ·rw [if_neg c5] at H
      exact absurd H (by simp)
    ·rw [if_neg c4] at H
     exact absurd H (by simp)
   ·rw [if_neg c2] at H
    have c2b0 : decide (0 ≤ x4_1) = false := decide_eq_false c2
    clear c2
    obtain rfl := Option.some.inj H
    go_wp2
    go_ret
    exact ⟨by rfl, by repeat (first | (with_reducible first | exact HB.out | apply below_alloc | apply pw_below_drewN | apply below_drew1) | exact HB.out)⟩

/-- One word's digits; then what follows. -/
theorem offcutref01_Of.ev_w {l : List Int} {r : ByteArray} {M u : Nat} {i : Int} (hM : (Dec.dc M).length < 1000000000) (hu : u < 10000000000)
  (next : Ev (fun k => offcutref01_Of.l0 k l (Dec.dec (M + u)) (wrap64 (i - 1))) r) (d : Nat) : ∀ (n : Nat) (out : List Nat), n < 10 ^ d → out.length + d ≤ 10 → Dec.Ds out → Dec.dv out + 10 ^ out.length * n = u →
  Ev (fun k => offcutref01_Of.l1 k l (Dec.dec M) i (n : Int) (Dec.tx out)) r := by
 have stop : ∀ out : List Nat, Dec.Ds out → Dec.dv out = u → Ev (fun k => offcutref01_Of.l1 k l (Dec.dec M) i ((0 : Nat) : Int) (Dec.tx out)) r := by
  intro out ho hv
  refine Ev.step (f := fun k => (offcutref01_cut.f k (Dec.tx out)).bind fun t235 => ((offcutref01_Add.f k (Dec.dec M) t235).bind fun t236 => (offcutref01_Of.l0 k l t236 (wrap64 (i - 1))))) (fun k => ?_) ?_
  ·rw [offcutref01_Of.l1, if_neg (by omega)]
  ·refine Ev.bind (offcutref01_cut.ev ho) ?_
   rw [hv]
   have := offcutref01_Add.ev (Dec.Ds_dc M) (Dec.Ds_dc u) hM (Nat.lt_of_le_of_lt (Dec.dc_length_le (k := 10) (by omega) (by omega)) (by omega))
   rw [Dec.dv_dc, Dec.dv_dc] at this
   exact Ev.bind this next
 induction d with
 | zero =>
  intro n out hn hl ho hv
  obtain rfl : n = 0 := by rw [Nat.pow_zero] at hn; omega
  exact stop out ho (by omega)
 | succ d ih =>
  intro n out hn hl ho hv
  rcases Nat.eq_zero_or_pos n with h0 | h0
  ·subst h0
   exact stop out ho (by omega)
  ·have hnu : n < 10 ^ 10 := Nat.lt_of_lt_of_le hn (Nat.pow_le_pow_right (by omega) (by omega))
   have hnv : n < 10000000000 := hnu
   refine Ev.step (f := fun k => offcutref01_Of.l1 k l (Dec.dec M) i ((n / 10 : Nat) : Int) (Dec.tx (out ++ [n % 10]))) (fun k => ?_) ?_
   ·rw [offcutref01_Of.l1, if_pos (by omega), Dec.tmod10, Dec.tdiv10, Dec.w64n _ (by omega), offcutref01_sign.sem _ (Nat.mod_lt _ (by omega)), Option.bind_some, Dec.tx_append, Dec.tx_size, Dec.tx_size, if_pos (by rw [List.length_singleton]; omega), show ((n / 10 : Nat) : Int) % 4294967296 = ((n / 10 : Nat) : Int) from by omega]
   ·refine ih (n / 10) (out ++ [n % 10]) (by rw [Nat.pow_succ] at hn; omega) (by rw [List.length_append, List.length_singleton]; omega) (ho.snoc (Nat.mod_lt _ (by omega))) ?_
    rw [Dec.dv_snoc, List.length_append, List.length_singleton, Nat.pow_succ, ← hv]
    have h3 : 10 ^ out.length * n = 10 ^ out.length * (n % 10 + 10 * (n / 10)) := by congr 1; omega
    rw [Nat.mul_add, ← Nat.mul_assoc] at h3
    omega
theorem offcutref01_Of.ev_l {l : List Int} (hW : Num.Ws l) (hl : l.length < 10000000) : ∀ i, i ≤ l.length → Ev (fun k => offcutref01_Of.l0 k l (Dec.dec (Num.nv (l.drop i))) ((i : Int) - 1)) (Dec.dec (Num.nv l)) := by
 intro i
 induction i with
 | zero =>
  intro hi
  refine Ev.step (f := fun _ => some (Dec.dec (Num.nv (l.drop 0)))) (fun k => ?_) ?_
  ·rw [offcutref01_Of.l0, if_neg (by omega)]
  ·rw [List.drop_zero]
   exact Ev.now _
 | succ i ih =>
  intro hi
  have hb := Num.nv_lt (hW.drop (i + 1))
  rw [List.length_drop] at hb
  have hb2 : Num.nv (l.drop (i + 1)) < 2 ^ (32 * l.length) := Nat.lt_of_lt_of_le hb (Nat.pow_le_pow_right (by omega) (by omega))
  have hl1 := Dec.dc_len32 (by omega) hb2
  have hb3 : Num.nv (l.drop (i + 1)) * 4294967296 < 2 ^ (32 * (l.length + 1)) := by
   rw [Num.pow_succ32]
   exact Nat.mul_lt_mul_of_pos_right hb2 (by omega)
  have hl2 := Dec.dc_len32 (by omega) hb3
  have hw := hW.getD i
  obtain ⟨u, hu⟩ : ∃ u : Nat, (u : Int) = l.getD i 0 := ⟨(l.getD i 0).toNat, by omega⟩
  have hd : Num.nv (l.drop i) = Num.nv (l.drop (i + 1)) * 4294967296 + u := by
   rw [List.drop_eq_getElem_cons (by omega), Num.nv]
   have : l[i] = (u : Int) := by rw [hu, List.getD_eq_getElem?_getD, List.getElem?_eq_getElem (by omega)]; rfl
   rw [this, Int.toNat_natCast]
   omega
  have hm := offcutref01_Mul.ev (Dec.Ds_dc (Num.nv (l.drop (i + 1)))) Dec.Ds_2_32 (by omega) (by decide)
  rw [Dec.dv_dc, show Dec.dv [6, 9, 2, 7, 6, 9, 4, 9, 2, 4] = 4294967296 from rfl] at hm
  refine Ev.step (f := fun k => (offcutref01_Mul.f k (Dec.tx (Dec.dc (Num.nv (l.drop (i + 1))))) (Dec.tx [6, 9, 2, 7, 6, 9, 4, 9, 2, 4])).bind fun t232 => (offcutref01_Of.l1 k l t232 (i : Int) (u : Int) (Dec.tx []))) (fun k => ?_) (Ev.bind hm ?_)
  ·rw [offcutref01_Of.l0, show (((i + 1 : Nat) : Int) - 1) = (i : Int) from by omega, if_pos (by omega)]
   refine congrArg _ (funext fun t232 => ?_)
   rw [if_pos (by omega), if_pos (by omega), show rd l (i : Int) = (u : Int) from by rw [hu]; simp [rd]]
   rfl
  ·refine offcutref01_Of.ev_w (u := u) (by omega) (by omega) ?_ 10 u [] (by omega) (by decide) Dec.Ds.nil (by rw [List.length_nil, Dec.dv]; omega)
   rw [Dec.w64 (by omega) (by omega), ← hd]
   exact ih (by omega)
theorem offcutref01_Of.ev {l : List Int} (hW : Num.Ws l) (hl : l.length < 10000000) : Ev (fun k => offcutref01_Of.f k l) (Dec.dec (Num.nv l)) := by
 have := offcutref01_Of.ev_l hW hl l.length (Nat.le_refl _)
 rw [List.drop_length, Num.nv, Dec.dec_zero] at this
 refine Ev.congr (fun k => ?_) this
 unfold offcutref01_Of.f
 rw [Dec.w64 (by omega) (by omega)]
set_option synthInstance.checkSynthOrder false in
open Lin in
instance offcutref01_Of.t {k : Nat} {l0 : List Int} {r : ByteArray} [h : Ans (offcutref01_Of.f k l0) r] : Tl Try.prog 60 [.one (.row l0)] (.el (.one (.val (.string r)))) := ⟨Tells.of Try.func60 fun out w vs ho hl hv => by
 obtain ⟨u0, rfl, h0⟩ := args1 hl hv
 obtain ⟨A0, c0, rfl, hc0, hr0, hb0⟩ := h0
 refine (offcutref01_Of.calls k A0 c0 l0 _ w hr0 hc0 h.out).mono ?_
 rintro e w' ⟨rfl, hb⟩
 exact ⟨_, rfl, ⟨rfl, rfl⟩, hb⟩⟩
def offcutlaw03_Of.f (k : Nat) (a0_0 : Bool) (l0_1 : List Int) (l0_2 : List Int) : Option (ByteArray × ByteArray) := (offcutref01_Of.f k l0_2).bind fun t497 => (if t497.toList = ([48] : List UInt8) then ((offcutref01_Of.f k l0_1).bind fun t498 => ((offcutref02_Made.f a0_0 t498).bind fun t499 => ((offcutref03_Low.f k t499 (⟨#[49]⟩ : ByteArray)).bind fun bt500 => (some (bt500.1, bt500.2))))) else ((offcutref01_Of.f k l0_1).bind fun t502 => ((offcutref02_Made.f a0_0 t502).bind fun t503 => ((offcutref03_Low.f k t503 t497).bind fun bt504 => (some (bt504.1, bt504.2))))))
theorem offcutlaw03_Of.ev {m : Bool} {l1 l2 : List Int} {r : Rat} {K : Nat} (h : Qn.Is m l1 l2 r K) (hK1 : 1 ≤ K) (hK : K < 300000) : Ev (fun k => offcutlaw03_Of.f k m l1 l2) (Zn.tz r.num, Dec.dec r.den) := by
 have l1K := h.num.len
 have l2K := h.len
 have O1 := offcutref01_Of.ev h.num.ws (by omega)
 have O2 := offcutref01_Of.ev h.ws (by omega)
 have ln := Dec.dc_len32 hK1 (Num.nv_lt_of h.num.ws l1K)
 have Md := offcutref02_Made.sem m (Num.nv l1) (by omega)
 have L := offcutref03_Low.ev h.num.lt (Qn.dn_lt h.ws h.len hK1) (Qn.dn_ne _) hK1 (by omega)
 rw [h.val] at L
 unfold offcutlaw03_Of.f
 refine Ev.bind O2 ?_
 by_cases h0 : Num.nv l2 = 0
 ·have e : Qn.dn (Num.nv l2) = 1 := if_pos h0
  rw [e, Dec.dec_one] at L
  exact Dec.yes ((Dec.dec_is0 _).2 h0) (Ev.bind O1 (Dec.val (fun _ => Md) (Ev.bind L (Ev.now _))))
 ·rw [Qn.dn_self h0] at L
  exact Dec.no (fun e => h0 ((Dec.dec_is0 _).1 e)) (Ev.bind O1 (Dec.val (fun _ => Md) (Ev.bind L (Ev.now _))))
set_option synthInstance.checkSynthOrder false in
open Lin in
set_option maxHeartbeats 4000000 in
instance offcutlaw03_Of.t {k : Nat} {a0_0 : Bool} {l0_1 : List Int} {l0_2 : List Int} {r : ByteArray × ByteArray} [h : Ans (offcutlaw03_Of.f k a0_0 l0_1 l0_2) r] : Tl Try.prog 28 [.agg [.val (.bool a0_0), .row l0_1, .row l0_2]] (.el (.agg [.val (.string r.1), .val (.string r.2)])) := by
 have h := h.out
 unfold offcutlaw03_Of.f at h
 repeat' (first | (replace h := Lin.bndK h) | (replace h := Lin.bnd h; obtain ⟨_, _, h⟩ := h) | split at h | cases h)
 all_goals exact ⟨Tells.go Try.func28 Try.ntmps28⟩
def nat_Right.f (l0 : List Int) : Option (Bool) := if (l0.length : Int) = 0 then (some true) else (if 0 ≤ (wrap64 ((l0.length : Int) - 1)) then (if (wrap64 ((l0.length : Int) - 1)) < (l0.length : Int) then (some ((rd l0 (wrap64 ((l0.length : Int) - 1))) != 0)) else (none)) else (none))
set_option maxHeartbeats 8000000 in
set_option maxRecDepth 100000 in
theorem nat_Right.calls (A0 : Option Addr) (c0 : Nat) (l0 : List Int) (r : Bool) (w : World) (hr0 : Kd.C (Kd.int .u32) w A0 l0.length l0) (hc0 : l0.length ≤ c0) (h : nat_Right.f l0 = some r) :
  Calls Try.prog 77 #[.slice A0 l0.length c0] w fun e w' => e = .returned (.bool r) ∧ Drawn0 w w' := by
 have HR0 := Aside0.mk hr0
 have HC0 := Aside0.mk hc0
 clear hr0 hc0
 have H : (if (l0.length : Int) = 0 then (some true) else (if 0 ≤ (wrap64 ((l0.length : Int) - 1)) then (if (wrap64 ((l0.length : Int) - 1)) < (l0.length : Int) then (some ((rd l0 (wrap64 ((l0.length : Int) - 1))) != 0)) else (none)) else (none))) = some r := h
 clear h
 by_cases c2 : (l0.length : Int) = 0
 ·rw [if_pos c2] at H
  have c2b0 : ((l0.length : Int) == 0) = true := beq_iff_eq.mpr c2
  have c2b1 : ((l0.length : Int) != 0) = false := bne_eq_false_iff_eq.mpr c2
  clear c2
  obtain rfl := Option.some.inj H
  go_enter Try.func77, Try.ntmps77
  go_wp2
  go_ret
  exact ⟨by first | rfl | (simp; done) | (simp [*]; done), by repeat (first | exact Drawn0.refl _ | apply Drawn0.step)⟩
 ·rw [if_neg c2] at H
  have c2b0 : ((l0.length : Int) == 0) = false := beq_eq_false_iff_ne.mpr c2
  have c2b1 : ((l0.length : Int) != 0) = true := bne_iff_ne.mpr c2
  have c2b2 : ¬ (l0 = []) := fun h_ => c2 (by rw [h_]; rfl)
  obtain ⟨ji3, hji3⟩ : ∃ j_ : Int, (wrap64 ((l0.length : Int) - 1)) = j_ := ⟨_, rfl⟩
  replace H : (if 0 ≤ (ji3) then (if (ji3) < (l0.length : Int) then (some ((rd l0 (ji3)) != 0)) else (none)) else (none)) = some r := by first | (rw [hji3] at H; exact H) | (simp only [hji3] at H ⊢; exact H)
  have hji3w : (IntKind.i64.wrap ((l0.length : Int) - 1)) = ji3 := (i64_w _).trans hji3
  by_cases c4 : 0 ≤ (ji3)
  ·rw [if_pos c4] at H
   have c4b0 : decide (0 ≤ (ji3)) = true := decide_eq_true c4
   clear c4
   by_cases c5 : (ji3) < (l0.length : Int)
   ·rw [if_pos c5] at H
    have c5b0 : decide ((ji3) < (l0.length : Int)) = true := decide_eq_true c5
    clear c5
    obtain rfl := Option.some.inj H
    have p506 : 0 ≤ ((ji3) : Int) := of_decide_eq_true (by first | (with_reducible assumption) | assumption)
    have q506 : (ji3) < (l0.length : Int) := of_decide_eq_true (by first | (with_reducible assumption) | assumption)
    obtain ⟨ad506, e506, hx506_0⟩ := Kd.at_int HR0.out (ji3) p506 q506
    cases e506
    replace p506 := eq_true p506
    replace q506 := eq_true q506
    go_enter Try.func77, Try.ntmps77
    go_wp2
    go_ret
    exact ⟨by first | rfl | (simp; done) | (simp only [← hji3] <;> (first | rfl | simp)) | (simp [*]; done), by repeat (first | exact Drawn0.refl _ | apply Drawn0.step)⟩
   ·rw [if_neg c5] at H
    exact absurd H (by simp)
  ·rw [if_neg c4] at H
   exact absurd H (by simp)

theorem nat_Right.sem {l : List Int} (h : 0 < l.length) (hl : l.length < 9223372036854775807) : nat_Right.f l = some (rd l (wrap64 ((l.length : Int) - 1)) != 0) := by
 unfold nat_Right.f
 have e := Dec.w64p l.length h (by omega)
 rw [if_neg (by omega), if_pos (by rw [e]; omega), if_pos (by rw [e]; omega)]
theorem nat_Right.nd {n : Nat} (hn : (Num.nd n).length < 9223372036854775807) : nat_Right.f (Num.nd n) = some true := by
 by_cases h : n = 0
 ·subst h
  rw [Num.nd_zero]
  rfl
 ·have h1 := Num.nd_last h
  have h2 : 0 < (Num.nd n).length := by
   rcases Nat.eq_zero_or_pos (Num.nd n).length with h0 | h0
   ·exact absurd (Num.nd_eq_nil.1 (List.eq_nil_of_length_eq_zero h0)) h
   ·exact h0
  rw [nat_Right.sem h2 hn, Dec.w64p _ h2 (by omega)]
  unfold rd
  rw [Int.toNat_natCast]
  congr 1
  simpa using h1
set_option synthInstance.checkSynthOrder false in
open Lin in
instance nat_Right.t {l0 : List Int} {r : Bool} [h : Ans (nat_Right.f l0) r] : Tl Try.prog 77 [.one (.row l0)] (.el (.one (.val (.bool r)))) := ⟨Tells.of Try.func77 fun out w vs ho hl hv => by
 obtain ⟨u0, rfl, h0⟩ := args1 hl hv
 obtain ⟨A0, c0, rfl, hc0, hr0, hb0⟩ := h0
 refine (nat_Right.calls A0 c0 l0 _ w hr0 hc0 h.out).mono ?_
 rintro e w' ⟨rfl, hb⟩
 exact ⟨_, rfl, ⟨rfl, rfl⟩, below_of_drawn hb⟩⟩
def whole_Right.f (a0_0 : Bool) (l0_1 : List Int) : Option (Bool) := (nat_Right.f l0_1).bind fun t508 => (if t508 = true then (if a0_0 = true then (some (decide ((l0_1.length : Int) > 0))) else (some true)) else (some false))
theorem whole_Right.zd {z : Int} {K : Nat} (h : z.natAbs < 2 ^ (32 * K)) (hK : K < 1000000) : whole_Right.f (Zn.zd z).1 (Zn.zd z).2 = some true := by
 have hn : (Num.nd z.natAbs).length < 9223372036854775807 := Nat.lt_of_le_of_lt (Num.nd_length_le h) (by omega)
 unfold whole_Right.f
 show (nat_Right.f (Num.nd z.natAbs)).bind (fun t => if t = true then (if decide (z < 0) = true then some (decide (((Num.nd z.natAbs).length : Int) > 0)) else some true) else some false) = some true
 rw [nat_Right.nd hn, Option.bind_some, if_pos rfl]
 by_cases hz : z < 0
 ·have := (Zn.nd_len_pos z.natAbs).2 (by omega)
  rw [if_pos (decide_eq_true hz), decide_eq_true (by omega)]
 ·rw [if_neg (by rw [decide_eq_false hz]; decide)]
set_option synthInstance.checkSynthOrder false in
open Lin in
set_option maxHeartbeats 4000000 in
instance whole_Right.t {a0_0 : Bool} {l0_1 : List Int} {r : Bool} [h : Ans (whole_Right.f a0_0 l0_1) r] : Tl Try.prog 76 [.agg [.val (.bool a0_0), .row l0_1]] (.el (.one (.val (.bool r)))) := by
 have h := h.out
 unfold whole_Right.f at h
 repeat' (first | (replace h := Lin.bndK h) | (replace h := Lin.bnd h; obtain ⟨_, _, h⟩ := h) | split at h | cases h)
 all_goals exact ⟨Tells.go Try.func76 Try.ntmps76⟩
def rat_Right.f (k : Nat) (a0_0 : Bool) (l0_1 : List Int) (l0_2 : List Int) : Option (Bool) := (whole_Right.f a0_0 l0_1).bind fun t510 => (if t510 = true then ((nat_Right.f l0_2).bind fun t511 => (if t511 = true then (if (l0_2.length : Int) > 0 then ((nat_Gcd.f k l0_1 l0_2).bind fun t512 => ((nat_Of.f k 1).bind fun t515 => ((nat_Compare.f k t512 t515).bind fun t518 => (some (t518 == 0))))) else (some false)) else (some false))) else (some false))
theorem rat_Right.qd {r : Rat} {K : Nat} (h : Qn.Sm r K) (hK : K < 300000) : Ev (fun k => rat_Right.f k (Qn.qd r).1 (Qn.qd r).2.1 (Qn.qd r).2.2) true := by
 have hn : (Num.nd r.den).length < 9223372036854775807 := Nat.lt_of_le_of_lt (Num.nd_length_le h.den) (by omega)
 have G := nat_Gcd.ev (K := K) (by omega) (Num.Ws_nd r.num.natAbs) (Num.Ws_nd r.den) (Num.nd_length_le h.num) (Num.nd_length_le h.den)
 rw [Num.nv_nd, Num.nv_nd, r.reduced] at G
 have o1 := Num.ok_nd (n := 1) (k := 1) (by decide) (by omega)
 have C : ∀ k, nat_Compare.f k (Num.nd 1) (Num.nd 1) = some 0 := fun k => by unfold nat_Compare.f; rw [if_pos o1, if_pos o1, Num.cmp_eq rfl]
 have hp := (Zn.nd_len_pos r.den).2 r.den_nz
 have W := whole_Right.zd h.num (by omega)
 unfold rat_Right.f
 exact Dec.val (fun _ => W) (Dec.yes rfl (Dec.val (fun _ => nat_Right.nd hn) (Dec.yes rfl (Dec.yes (show ((Num.nd r.den).length : Int) > 0 by omega) (Ev.bind G (Ev.bind (nat_Of.ev 1 (by omega)) (Dec.val C (Ev.now _))))))))
set_option synthInstance.checkSynthOrder false in
open Lin in
set_option maxHeartbeats 4000000 in
instance rat_Right.t {k : Nat} {a0_0 : Bool} {l0_1 : List Int} {l0_2 : List Int} {r : Bool} [h : Ans (rat_Right.f k a0_0 l0_1 l0_2) r] : Tl Try.prog 47 [.agg [.val (.bool a0_0), .row l0_1, .row l0_2]] (.el (.one (.val (.bool r)))) := by
 have h := h.out
 unfold rat_Right.f at h
 repeat' (first | (replace h := Lin.bndK h) | (replace h := Lin.bnd h; obtain ⟨_, _, h⟩ := h) | split at h | cases h)
 all_goals exact ⟨Tells.go Try.func47 Try.ntmps47⟩
section
attribute [local go_sem high] eqA43
def offcutlaw03_Is.f (k : Nat) (a0_0 : Bool) (l0_1 : List Int) (l0_2 : List Int) (a1_0 : ByteArray) (a1_1 : ByteArray) : Option (Bool) := if (l0_2.length : Int) > 0 then ((rat_Right.f k a0_0 l0_1 l0_2).bind fun t521 => (if t521 = true then ((offcutlaw03_Of.f k a0_0 l0_1 l0_2).bind fun bt522 => (some (bt522.1.toList == a1_0.toList && (bt522.2.toList == a1_1.toList)))) else (some false))) else (some false)
theorem offcutlaw03_Is.ev {r s : Rat} {K : Nat} (h : Qn.Sm r K) (hK1 : 1 ≤ K) (hK : K < 300000) : Ev (fun k => offcutlaw03_Is.f k (Qn.qd r).1 (Qn.qd r).2.1 (Qn.qd r).2.2 (Zn.tz s.num) (Dec.dec s.den)) (decide (r = s)) := by
 have hp := (Zn.nd_len_pos r.den).2 r.den_nz
 unfold offcutlaw03_Is.f
 refine Dec.yes (show ((Num.nd r.den).length : Int) > 0 by omega) (Ev.bind (rat_Right.qd h hK) (Dec.yes rfl (Ev.bind (offcutlaw03_Of.ev (Qn.Is.qd h) hK1 hK) ?_)))
 have e : ((Zn.tz r.num).toList == (Zn.tz s.num).toList && ((Dec.dec r.den).toList == (Dec.dec s.den).toList)) = decide (r = s) := by
  rw [Zn.tz_beq, Dec.dec_beq, ← Bool.decide_and]
  exact decide_eq_decide.2 ⟨fun e => Rat.ext e.1 e.2, fun e => by rw [e]; exact ⟨rfl, rfl⟩⟩
 rw [← e]
 exact Ev.now _
set_option synthInstance.checkSynthOrder false in
open Lin in
set_option maxHeartbeats 4000000 in
instance offcutlaw03_Is.t {k : Nat} {a0_0 : Bool} {l0_1 : List Int} {l0_2 : List Int} {a1_0 : ByteArray} {a1_1 : ByteArray} {r : Bool} [h : Ans (offcutlaw03_Is.f k a0_0 l0_1 l0_2 a1_0 a1_1) r] : Tl Try.prog 20 [.agg [.val (.bool a0_0), .row l0_1, .row l0_2], .agg [.val (.string a1_0), .val (.string a1_1)]] (.el (.one (.val (.bool r)))) := by
 have h := h.out
 unfold offcutlaw03_Is.f at h
 repeat' (first | (replace h := Lin.bndK h) | (replace h := Lin.bnd h; obtain ⟨_, _, h⟩ := h) | split at h | cases h)
 all_goals exact ⟨Tells.go Try.func20 Try.ntmps20⟩
end
def offcutlaw04_few.f (a0_0 : Bool) (l0_1 : List Int) (l0_2 : List Int) : Option (Bool) := if (l0_1.length : Int) ≤ 4 then (some (decide ((l0_2.length : Int) ≤ 4))) else (some false)
set_option synthInstance.checkSynthOrder false in
open Lin in
set_option maxHeartbeats 4000000 in
instance offcutlaw04_few.t {a0_0 : Bool} {l0_1 : List Int} {l0_2 : List Int} {r : Bool} [h : Ans (offcutlaw04_few.f a0_0 l0_1 l0_2) r] : Tl Try.prog 22 [.agg [.val (.bool a0_0), .row l0_1, .row l0_2]] (.el (.one (.val (.bool r)))) := by
 have h := h.out
 unfold offcutlaw04_few.f at h
 repeat' (first | (replace h := Lin.bndK h) | (replace h := Lin.bnd h; obtain ⟨_, _, h⟩ := h) | split at h | cases h)
 all_goals exact ⟨Tells.go Try.func22 Try.ntmps22⟩
section
open Lin Flo Ieee
def qa (m : Bool) (l1 l2 : List Int) : Rat := mkRat (Zn.zv m (Num.nv l1)) (Qn.dn (Num.nv l2))
theorem few_eq (m : Bool) (l1 l2 : List Int) : offcutlaw04_few.f m l1 l2 = some (decide (l1.length ≤ 4) && decide (l2.length ≤ 4)) := by
  unfold offcutlaw04_few.f
  by_cases h : l1.length ≤ 4
  · rw [if_pos (by omega), decide_eq_true h, Bool.true_and, decide_eq_decide.2 (show ((l2.length : Int) ≤ 4) ↔ l2.length ≤ 4 by omega)]
  · rw [if_neg (by omega), decide_eq_false h, Bool.false_and]
theorem few_yes {m : Bool} {l1 l2 : List Int} (h1 : l1.length ≤ 4) (h2 : l2.length ≤ 4) : Ans (offcutlaw04_few.f m l1 l2) true := ⟨by rw [few_eq, decide_eq_true h1, decide_eq_true h2]; rfl⟩
theorem few_no {m : Bool} {l1 l2 : List Int} (h : ¬ (l1.length ≤ 4 ∧ l2.length ≤ 4)) : Ans (offcutlaw04_few.f m l1 l2) false := ⟨by
  rw [few_eq]
  by_cases h1 : l1.length ≤ 4
  · rw [decide_eq_true h1, decide_eq_false (fun h2 => h ⟨h1, h2⟩)]; rfl
  · rw [decide_eq_false h1]; rfl⟩
theorem Dk_cross (k : Int) (a b : Rat) : Dk k b * (a.den : Int) = Dk k a * (b.den : Int) + (a.num * (b.den : Int) - b.num * (a.den : Int)) * ((2 ^ place : Nat) : Int) := by
  unfold Dk
  generalize ((2 ^ place : Nat) : Int) = X
  generalize (a.den : Int) = d
  generalize (b.den : Int) = e
  simp only [Int.sub_mul]
  rw [Int.mul_assoc (vk k) e d, Int.mul_assoc (vk k) d e, Int.mul_comm e d, Int.mul_assoc b.num X d, Int.mul_assoc a.num X e, Int.mul_assoc a.num e X, Int.mul_assoc b.num d X, Int.mul_comm X d, Int.mul_comm X e]
  omega
theorem le_num (a b : Rat) : (a - b).num.sign = (a.num * (b.den : Int) - b.num * (a.den : Int)).sign := by
  have := Qn.sub_mk a.num b.num a.den_nz b.den_nz
  rw [Rat.mkRat_self, Rat.mkRat_self] at this
  rw [this]
  exact Qn.sign_num _ _ (Nat.mul_ne_zero a.den_nz b.den_nz)
theorem near_mono {a b : Rat} {l h l' h' : Int} (A : Bt a l h) (B : Bt b l' h') (a1 : -(top : Int) < l) (a2 : h < top) (b1 : -(top : Int) < l') (b2 : h' < top) (hE : a.num * (b.den : Int) - b.num * (a.den : Int) ≤ 0) : near a l h ≤ near b l' h' := by
  have hp : (0 : Int) < ((2 ^ place : Nat) : Int) := by exact_mod_cast Nat.two_pow_pos place
  have hd : (0 : Int) < (a.den : Int) := by have := a.den_pos; omega
  have he : (0 : Int) < (b.den : Int) := by have := b.den_pos; omega
  have cr := fun k => Dk_cross k a b
  have hEP : (a.num * (b.den : Int) - b.num * (a.den : Int)) * ((2 ^ place : Nat) : Int) ≤ 0 := Int.mul_nonpos_of_nonpos_of_nonneg hE (Int.le_of_lt hp)
  generalize (a.num * (b.den : Int) - b.num * (a.den : Int)) * ((2 ^ place : Nat) : Int) = Z at *
  have hll : l ≤ l' := by
    rcases Int.lt_or_le l' l with h1 | h1
    · have h2 := B.up h1 A.l2
      have h3 : Dk l a ≤ 0 := by rcases A.low with e | e <;> omega
      have h4 := cr l
      have h5 := Int.mul_pos h2 hd
      have h6 := Int.mul_nonpos_of_nonpos_of_nonneg h3 (Int.le_of_lt he)
      omega
    · exact h1
  have hhh : h ≤ h' := by
    rcases Int.lt_or_le h' h with h1 | h1
    · have h2 := A.dn h1 B.h1
      have h3 : 0 ≤ Dk h' b := by
        rcases B.cs with ⟨e, e2⟩ | ⟨e, _, e2 | e2⟩
        · rw [← e]; omega
        · omega
        · omega
      have h4 := cr h'
      have h5 := Int.mul_nonneg h3 (Int.le_of_lt hd)
      have h6 := Int.mul_neg_of_neg_of_pos h2 he
      omega
    · exact h1
  have na := near_in a l h
  have nb := near_in b l' h'
  have w1 : h = l ∨ h = l + 1 := by rcases A.cs with ⟨e, _⟩ | ⟨e, _⟩ <;> omega
  have w2 : h' = l' ∨ h' = l' + 1 := by rcases B.cs with ⟨e, _⟩ | ⟨e, _⟩ <;> omega
  rcases Int.lt_or_le l' h with h1 | h1
  · have e1 : l' = l := by omega
    have e2 : h' = h := by omega
    subst e1
    subst e2
    have s : (Dk l' b + Dk h' b) * (a.den : Int) = (Dk l' a + Dk h' a) * (b.den : Int) + 2 * Z := by
      rw [Int.add_mul, Int.add_mul, cr l', cr h']
      omega
    unfold near
    by_cases p1 : 0 < Dk l' b + Dk h' b
    · have := Int.mul_pos p1 hd
      have q1 : 0 < Dk l' a + Dk h' a := by
        rcases Int.lt_or_le 0 (Dk l' a + Dk h' a) with q | q
        · exact q
        · have := Int.mul_nonpos_of_nonpos_of_nonneg q (Int.le_of_lt he); omega
      rw [if_pos p1, if_pos q1]
      exact Int.le_refl _
    · rw [if_neg p1]
      by_cases p2 : Dk l' b + Dk h' b = 0
      · rw [p2, Int.zero_mul] at s
        have q1 : 0 ≤ Dk l' a + Dk h' a := by
          rcases Int.lt_or_le (Dk l' a + Dk h' a) 0 with q | q
          · have := Int.mul_neg_of_neg_of_pos q he; omega
          · exact q
        rw [if_pos p2]
        by_cases q2 : 0 < Dk l' a + Dk h' a
        · rw [if_pos q2]
          split <;> omega
        · rw [if_neg q2, if_pos (by omega)]
          exact Int.le_refl _
      · rw [if_neg p2]
        repeat' split
        all_goals omega
  · omega
theorem near_r {a : Rat} {l h : Int} (A : Bt a l h) (a1 : -(top : Int) < l) (a2 : h < top) : InR (near a l h) ∧ l ≤ near a l h ∧ near a l h ≤ h := by
  have w1 : h = l ∨ h = l + 1 := by rcases A.cs with ⟨e, _⟩ | ⟨e, _⟩ <;> omega
  have := near_in a l h
  exact ⟨⟨by omega, by omega⟩, by omega, by omega⟩
theorem leq_true {x y : Int} (hx : InR x) (hy : InR y) (h : x ≤ y) : (double.order (wd x) (wd y) == some .lt || double.order (wd x) (wd y) == some .eq) = true := by
  rw [ord_lt (wd_le hx) (wd_le hy), ord_eq (wd_le hx) (wd_le hy), wd_key hx, wd_key hy]
  rcases Int.lt_or_eq_of_le h with h | h
  · rw [decide_eq_true h]; rfl
  · rw [decide_eq_true h, Bool.or_true]
theorem ws_of {l : List Int} (h : ∀ x ∈ l, (Lit.int .u32 x).wf = true) : Num.Ws l := fun x hx => by
  have a : IntKind.u32.min = 0 := by decide
  have b : IntKind.u32.max = 4294967295 := by decide
  have := h x hx
  simp [Lit.wf, a, b] at this
  omega
set_option maxHeartbeats 4000000 in
theorem EdgeOrder_t {m m' : Bool} {l1 l2 k1 k2 : List Int} (v1 : Num.Ws l1) (v2 : Num.Ws l2) (v3 : Num.Ws k1) (v4 : Num.Ws k2) : Tl Try.prog 10 [.agg [.val (.bool m), .row l1, .row l2], .agg [.val (.bool m'), .row k1, .row k2]] (.el (.one (.val (.bool true)))) := by
  have W := awake_t
  by_cases f1 : l1.length ≤ 4 ∧ l2.length ≤ 4
  · have F1 := few_yes (m := m) f1.1 f1.2
    by_cases f2 : k1.length ≤ 4 ∧ k2.length ≤ 4
    · have F2 := few_yes (m := m') f2.1 f2.2
      have Ia := Qn.Is.of (m := m) v1 v2 f1.1 f1.2
      have Ib := Qn.Is.of (m := m') v3 v4 f2.1 f2.2
      obtain ⟨a, ea⟩ : ∃ a, a = mkRat (Zn.zv m (Num.nv l1)) (Qn.dn (Num.nv l2)) := ⟨_, rfl⟩
      obtain ⟨b, eb⟩ : ∃ b, b = mkRat (Zn.zv m' (Num.nv k1)) (Qn.dn (Num.nv k2)) := ⟨_, rfl⟩
      rw [← ea] at Ia
      rw [← eb] at Ib
      obtain ⟨k, c⟩ := (rat_Compare.ev Ia Ib (by omega) (by omega) (by omega)).rounds
      have C : Ans (rat_Compare.f k m l1 l2 m' k1 k2) (a - b).num.sign := ⟨c⟩
      have en := le_num a b
      have hz := Zn.sign_cases (a.num * (b.den : Int) - b.num * (a.den : Int))
      by_cases hc : 0 < a.num * (b.den : Int) - b.num * (a.den : Int)
      · have c1 : decide ((a - b).num.sign > 0) = true := decide_eq_true (by omega)
        exact ⟨Tells.goF Try.func10 Try.ntmps10⟩
      · have c1 : decide ((a - b).num.sign > 0) = false := decide_eq_false (by omega)
        obtain ⟨l, h, A⟩ := Bt.exists a
        obtain ⟨l', h', B⟩ := Bt.exists b
        obtain ⟨a1, a2⟩ := A.fin (Ia.sm (by omega))
        obtain ⟨b1, b2⟩ := B.fin (Ib.sm (by omega))
        have T1 := Between_t Ia (by omega) (by omega) A
        have T2 := Between_t Ib (by omega) (by omega) B
        have N1 := Near_t Ia (by omega) (by omega) A a1 a2
        have N2 := Near_t Ib (by omega) (by omega) B b1 b2
        obtain ⟨ra, ra1, ra2⟩ := near_r A a1 a2
        obtain ⟨rb, rb1, rb2⟩ := near_r B b1 b2
        have d1 := leq_true ra rb (near_mono A B a1 a2 b1 b2 (by omega))
        have d2 := leq_true A.lin ra ra1
        have d3 := leq_true rb B.hin rb2
        exact ⟨Tells.goF Try.func10 Try.ntmps10⟩
    · have F2 := few_no (m := m') f2
      exact ⟨Tells.goF Try.func10 Try.ntmps10⟩
  · have F1 := few_no (m := m) f1
    exact ⟨Tells.goF Try.func10 Try.ntmps10⟩
theorem offcutlaw04_EdgeOrder.calls (b0 : Bool) (A0n : Option Addr) (c0n : Nat) (l0n : List Int) (A0d : Option Addr) (c0d : Nat) (l0d : List Int) (b1 : Bool) (A1n : Option Addr) (c1n : Nat) (l1n : List Int) (A1d : Option Addr) (c1d : Nat) (l1d : List Int) (w : World) (hr0n : Kd.C (Kd.int .u32) w A0n l0n.length l0n) (hc0n : l0n.length ≤ c0n) (hr0d : Kd.C (Kd.int .u32) w A0d l0d.length l0d) (hc0d : l0d.length ≤ c0d) (hr1n : Kd.C (Kd.int .u32) w A1n l1n.length l1n) (hc1n : l1n.length ≤ c1n) (hr1d : Kd.C (Kd.int .u32) w A1d l1d.length l1d) (hc1d : l1d.length ≤ c1d) (hw0n : ∀ x ∈ l0n, (Lit.int .u32 x).wf = true) (hw0d : ∀ x ∈ l0d, (Lit.int .u32 x).wf = true) (hw1n : ∀ x ∈ l1n, (Lit.int .u32 x).wf = true) (hw1d : ∀ x ∈ l1d, (Lit.int .u32 x).wf = true) : Calls Try.prog 10 #[.agg #[.bool b0, .slice A0n l0n.length c0n, .slice A0d l0d.length c0d], .agg #[.bool b1, .slice A1n l1n.length c1n, .slice A1d l1d.length c1d]] w fun e w' => e = .returned (.bool true) ∧ Below w.heap.size w w' := law_calls (vs := [.agg #[.bool b0, .slice A0n l0n.length c0n, .slice A0d l0d.length c0d], .agg #[.bool b1, .slice A1n l1n.length c1n, .slice A1d l1d.length c1d]]) (ds := [.agg [.val (.bool b0), .row l0n, .row l0d], .agg [.val (.bool b1), .row l1n, .row l1d]]) Try.func10 (EdgeOrder_t (ws_of hw0n) (ws_of hw0d) (ws_of hw1n) (ws_of hw1d)) rfl (args_cons ⟨[_, _, _], rfl, SeesL.cons ⟨rfl, rfl⟩ (SeesL.cons ⟨_, _, rfl, hc0n, hr0n, fun _ _ _ h => h⟩ (SeesL.cons ⟨_, _, rfl, hc0d, hr0d, fun _ _ _ h => h⟩ SeesL.nil))⟩ (args_cons ⟨[_, _, _], rfl, SeesL.cons ⟨rfl, rfl⟩ (SeesL.cons ⟨_, _, rfl, hc1n, hr1n, fun _ _ _ h => h⟩ (SeesL.cons ⟨_, _, rfl, hc1d, hr1d, fun _ _ _ h => h⟩ SeesL.nil))⟩ args_mk0))
end
section
open Lin Flo Ieee
set_option maxHeartbeats 8000000 in
theorem EdgeGuards_t {m : Bool} {l1 l2 : List Int} {p : Bool} (v1 : Num.Ws l1) (v2 : Num.Ws l2) : Tl Try.prog 6 [.agg [.val (.bool m), .row l1, .row l2], .one (.val (.bool p))] (.el (.one (.val (.bool true)))) := by
  have W := awake_t
  have G := guard_nil
  obtain ⟨kz, z⟩ := (rat_Sign.ev (Qn.Is.qd (r := ((0 : Int) : Rat)) (K := 1) ⟨by decide, by decide⟩) (by omega)).rounds
  have Z : Ans (rat_Sign.f kz zq.1 zq.2.1 zq.2.2) 0 := ⟨z⟩
  refine ⟨Tells.body Try.func6 (by rfl) (by kernel_rfl) ?_ (by kernel_rfl)⟩
  rw [Try.ntmps6]
  by_cases f1 : l1.length ≤ 4 ∧ l2.length ≤ 4
  · have F1 := few_yes (m := m) f1.1 f1.2
    have I := Qn.Is.of (m := m) v1 v2 f1.1 f1.2
    obtain ⟨a, ea⟩ : ∃ a, a = mkRat (Zn.zv m (Num.nv l1)) (Qn.dn (Num.nv l2)) := ⟨_, rfl⟩
    rw [← ea] at I
    cases p with
    | true =>
      repeat' (first
        | refine Run.mv ?_ | refine Run.asg ?_ | refine Run.mkf ?_ | refine Run.callK2 ?_ | refine Run.ld1 ?_ | refine Run.ld3 ?_ | refine Run.call1 ?_ | refine Run.call2 ?_ | refine Run.call0 ?_ | refine Run.st ?_ | refine Run.icmp ?_ | refine Run.bx ?_ | refine Run.bx1 ?_ | refine Run.al ?_ | refine Run.ext ?_ | refine Run.skp ?_ | refine Run.skp0 ?_ | refine Run.pckT ?_ | refine Run.pckF ?_ | refine Run.not ?_
        | refine Run.endF ?_ | refine Run.endT ?_ | exact FinK.ret1 | refine K.thenN ?_ | refine K.thenR ?_
        | refine AWp.seq ?_ | refine AWp.regF ?_ | refine AWp.regT ?_ | refine AWp.ret ?_ | refine AWp.condT ?_ | refine AWp.condF ?_ | refine AWp.skip ?_)
    | false =>
      have O := guard_ok I (by omega) (by omega)
      obtain ⟨k1, o1⟩ := (offcutlaw03_Of.ev I (by omega) (by omega)).rounds
      have O1 : Ans (offcutlaw03_Of.f k1 m l1 l2) (Zn.tz a.num, Dec.dec a.den) := ⟨o1⟩
      obtain ⟨k2, o2⟩ := (offcutlaw03_Is.ev (s := a) (I.sm (by omega)) (by omega) (by omega)).rounds
      have O2 : Ans (offcutlaw03_Is.f k2 (Qn.qd a).1 (Qn.qd a).2.1 (Qn.qd a).2.2 (Zn.tz a.num) (Dec.dec a.den)) true := ⟨by rw [o2, decide_eq_true rfl]⟩
      repeat' (first
        | refine Run.mv ?_ | refine Run.asg ?_ | refine Run.mkf ?_ | refine Run.callK2 ?_ | refine Run.ld1 ?_ | refine Run.ld3 ?_ | refine Run.call1 ?_ | refine Run.call2 ?_ | refine Run.call0 ?_ | refine Run.st ?_ | refine Run.icmp ?_ | refine Run.bx ?_ | refine Run.bx1 ?_ | refine Run.al ?_ | refine Run.ext ?_ | refine Run.skp ?_ | refine Run.skp0 ?_ | refine Run.pckT ?_ | refine Run.pckF ?_ | refine Run.not ?_
        | refine Run.endF ?_ | refine Run.endT ?_ | exact FinK.ret1 | refine K.thenN ?_ | refine K.thenR ?_
        | refine AWp.seq ?_ | refine AWp.regF ?_ | refine AWp.regT ?_ | refine AWp.ret ?_ | refine AWp.condT ?_ | refine AWp.condF ?_ | refine AWp.skip ?_)
  · have F1 := few_no (m := m) f1
    repeat' (first
      | refine Run.mv ?_ | refine Run.asg ?_ | refine Run.mkf ?_ | refine Run.callK2 ?_ | refine Run.ld1 ?_ | refine Run.ld3 ?_ | refine Run.call1 ?_ | refine Run.call2 ?_ | refine Run.call0 ?_ | refine Run.st ?_ | refine Run.icmp ?_ | refine Run.bx ?_ | refine Run.bx1 ?_ | refine Run.al ?_ | refine Run.ext ?_ | refine Run.skp ?_ | refine Run.skp0 ?_ | refine Run.pckT ?_ | refine Run.pckF ?_ | refine Run.not ?_
      | refine Run.endF ?_ | refine Run.endT ?_ | exact FinK.ret1 | refine K.thenN ?_ | refine K.thenR ?_
      | refine AWp.seq ?_ | refine AWp.regF ?_ | refine AWp.regT ?_ | refine AWp.ret ?_ | refine AWp.condT ?_ | refine AWp.condF ?_ | refine AWp.skip ?_)
theorem offcutlaw04_EdgeGuards.calls (b0 : Bool) (A0n : Option Addr) (c0n : Nat) (l0n : List Int) (A0d : Option Addr) (c0d : Nat) (l0d : List Int) (b1 : Bool) (w : World) (hr0n : Kd.C (Kd.int .u32) w A0n l0n.length l0n) (hc0n : l0n.length ≤ c0n) (hr0d : Kd.C (Kd.int .u32) w A0d l0d.length l0d) (hc0d : l0d.length ≤ c0d) (hw0n : ∀ x ∈ l0n, (Lit.int .u32 x).wf = true) (hw0d : ∀ x ∈ l0d, (Lit.int .u32 x).wf = true) : Calls Try.prog 6 #[.agg #[.bool b0, .slice A0n l0n.length c0n, .slice A0d l0d.length c0d], .bool b1] w fun e w' => e = .returned (.bool true) ∧ Below w.heap.size w w' := law_calls (vs := [.agg #[.bool b0, .slice A0n l0n.length c0n, .slice A0d l0d.length c0d], .bool b1]) (ds := [.agg [.val (.bool b0), .row l0n, .row l0d], .one (.val (.bool b1))]) Try.func6 (EdgeGuards_t (ws_of hw0n) (ws_of hw0d)) rfl (args_cons ⟨[_, _, _], rfl, SeesL.cons ⟨rfl, rfl⟩ (SeesL.cons ⟨_, _, rfl, hc0n, hr0n, fun _ _ _ h => h⟩ (SeesL.cons ⟨_, _, rfl, hc0d, hr0d, fun _ _ _ h => h⟩ SeesL.nil))⟩ (args_cons ⟨rfl, rfl⟩ args_mk0))
end
end Go.Proofs.Ytdhioaoojemcpaa.PR
