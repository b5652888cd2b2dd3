/- Loops over such states. -/
import Derived.Test.YtcdkopidgibijaaRun
namespace Go.Proofs.Ytcdkopidgibijaa.Lin
open Go Go.RowKit Go.Proofs.YtcdkopidgibijaaW.PrintWords
variable {P : Program}
/-- Less is known. -/
def EnvLe (e : List (Nat × Den)) : List (Nat × Den) → Prop
  | [] => True
  | (t, d) :: r => get e t = d ∧ EnvLe e r
def BoxLe (b : List (Nat × TypeId × List At)) : List (Nat × TypeId × List At) → Prop
  | [] => True
  | (t, d) :: r => boxOf b t = some d ∧ BoxLe b r
/-- Each pointer that is known leads to a variable that is known. -/
def ptrsB (box : List (Nat × TypeId × List At)) : List (Nat × Den) → Bool
  | [] => true
  | (_, d) :: r => d.ks.all (fun k => (boxOf box k).isSome) && ptrsB box r
theorem EnvLe.get {e : List (Nat × Den)} : ∀ {l : List (Nat × Den)}, EnvLe e l → ∀ t, Lin.get l t = .any ∨ Lin.get l t = Lin.get e t
  | [], _, _ => .inl rfl
  | (u, d) :: r, h, t => by
    by_cases eq : u = t
    · subst eq
      rw [get_same]
      exact .inr h.1.symm
    · rw [get_other eq]
      exact EnvLe.get h.2 t
theorem BoxLe.get {b : List (Nat × TypeId × List At)} : ∀ {l : List (Nat × TypeId × List At)}, BoxLe b l → ∀ k d, boxOf l k = some d → boxOf b k = some d
  | [], _, _, _, h => by cases h
  | (u, d0) :: r, h, k, d, hk => by
    by_cases eq : u = k
    · subst eq
      rw [boxOf_same] at hk
      cases hk
      exact h.1
    · rw [boxOf_other eq] at hk
      exact BoxLe.get h.2 k d hk
theorem ptrsB_spec {box : List (Nat × TypeId × List At)} : ∀ {l : List (Nat × Den)}, ptrsB box l = true → ∀ t k, k ∈ (Lin.get l t).ks → (boxOf box k).isSome = true
  | [], _, _, _, h => by cases h
  | (u, d) :: r, hb, t, k, h => by
    unfold ptrsB at hb
    rw [Bool.and_eq_true] at hb
    by_cases eq : u = t
    · subst eq
      rw [get_same] at h
      exact List.all_eq_true.1 hb.1 k h
    · rw [get_other eq] at h
      exact ptrsB_spec hb.2 t k h
structure Weak (s s' : St) : Prop where
  n : s.n = s'.n
  env : EnvLe s.env s'.env
  box : BoxLe s.box s'.box
  ptr : ptrsB s'.box s'.env = true
theorem Rel.weak {out : Nat → Prop} {w0 : Base} {s s' : St} {a : Act} {w : World} (h : Weak s s') (hr : Rel out w0 s a w) : Rel out w0 s' a w := by
  obtain ⟨ρ, hr⟩ := hr
  have hsome : ∀ k, (boxOf s'.box k).isSome = true → (boxOf s.box k).isSome = true := fun k hk => by
    obtain ⟨d, hd⟩ := Option.isSome_iff_exists.1 hk
    rw [h.box.get k d hd]
    rfl
  have hm : Moves w (badOf out ρ s) w (badOf out ρ s') := Moves.less (fun b hb => by
    rcases hb with hb | ⟨k, hk, e⟩
    · exact .inl hb
    · exact .inr ⟨k, hsome k hk, e⟩)
  refine ⟨ρ, hr.size.trans h.n, hr.defers, fun k hk => hr.pin k (h.n.symm ▸ hk), fun t => ?_, fun k T xs hk => ?_, fun k k' h1 h2 => hr.inj k k' (hsome k h1) (hsome k' h2), fun t k ht => ptrsB_spec h.ptr t k ht, hr.out_, hr.below⟩
  · rcases h.env.get t with e | e
    · rw [e]; trivial
    · rw [e]; exact (hr.slots t).move hm
  · obtain ⟨h1, cs, h2, h3⟩ := hr.boxes k T xs (h.box.get k (T, xs) hk)
    exact ⟨h1, cs, h2, h3.move hm⟩
theorem AWp.weak {c : Code} {s s' : St} {K : Exit → St → Prop} (hw : Weak s s') (h : AWp P c s' K) : AWp P c s K := by
  unfold AWp at h ⊢
  exact fun out w0 a w hr => h out w0 a w (hr.weak hw)
/-- A round's end: the state is one of the loop's, nearer to its end. -/
def roundK {X : Type} (J : X → Prop) (S : X → St) (μ : X → Nat) (x : X) (K : Exit → St → Prop) : Exit → St → Prop
  | .normal, s => ∃ x', J x' ∧ μ x' < μ x ∧ Weak s (S x')
  | e, s => K e s
theorem AWp.loop {X : Type} (J : X → Prop) (S : X → St) (μ : X → Nat) {c : Code} {s : St} {K : Exit → St → Prop} (x0 : X) (h0 : J x0) (hs : Weak s (S x0)) (round : ∀ x, J x → AWp P c (S x) (roundK J S μ x K)) : AWp P (.loop c) s K := by
  unfold AWp at round ⊢
  intro out w0 a w hr b k cs
  have key : ∀ n x a w, μ x = n → J x → Rel out w0 (S x) a w →
      ∃ e a' w', (∃ s', K e s' ∧ Rel out w0 s' a' w') ∧ Arrives P (lone (b.at a (.code c :: .inLoop c :: k)) cs w) b k cs e a' w' := by
    intro n
    induction n using Nat.strongRecOn with
    | _ n ih =>
      intro x a w hn hJ hrel
      obtain ⟨e, a₁, w₁, ⟨s1, hq, hr1⟩, harr⟩ := round x hJ out w0 a w hrel b (.inLoop c :: k) cs
      cases e with
      | normal =>
        obtain ⟨x', hJ', hlt, hwk⟩ := hq
        obtain ⟨e₂, a₂, w₂, hq₂, harr₂⟩ := ih (μ x') (hn ▸ hlt) x' a₁ w₁ rfl hJ' (hr1.weak hwk)
        exact ⟨e₂, a₂, w₂, hq₂, .of_steps (Steps.trans harr (.one step_inLoop)) harr₂⟩
      | exit id => exact ⟨_, a₁, w₁, ⟨s1, hq, hr1⟩, .pass (x := .inLoop c) rfl (fun _ _ => .inl (by simp)) harr⟩
      | goto l => exact ⟨_, a₁, w₁, ⟨s1, hq, hr1⟩, .pass (x := .inLoop c) rfl (fun _ _ => .inl (by simp)) harr⟩
      | ret => exact ⟨_, a₁, w₁, ⟨s1, hq, hr1⟩, .pass (x := .inLoop c) rfl (fun _ _ => .inl (by simp)) harr⟩
      | panic ch => exact ⟨_, a₁, w₁, ⟨s1, hq, hr1⟩, .pass (x := .inLoop c) rfl (fun _ _ => .inl (by simp)) harr⟩
      | outgrown => exact ⟨_, a₁, w₁, ⟨s1, hq, hr1⟩, .pass (x := .inLoop c) rfl (fun _ _ => .inl (by simp)) harr⟩
  obtain ⟨e, a', w', hq, harr⟩ := key _ x0 a w rfl h0 (hr.weak hs)
  exact ⟨e, a', w', hq, .of_steps (.one step_loop) harr⟩
section
variable {X : Type} {J : X → Prop} {S : X → St} {μ : X → Nat} {x : X} {K : Exit → St → Prop} {s : St}
theorem K.rndN (x' : X) (h1 : J x') (h2 : μ x' < μ x) (h3 : Weak s (S x')) : roundK J S μ x K .normal s := ⟨x', h1, h2, h3⟩
theorem K.rndX {i : Nat} (h : K (.exit i) s) : roundK J S μ x K (.exit i) s := h
theorem K.rndR (h : K .ret s) : roundK J S μ x K .ret s := h
end
end Go.Proofs.Ytcdkopidgibijaa.Lin
