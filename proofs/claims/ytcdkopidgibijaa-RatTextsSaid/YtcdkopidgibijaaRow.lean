/- An own row behind a call: by its name. -/
import Derived.Test.YtcdkopidgibijaaWLast
import Derived.Test.YtcdkopidgibijaaWMore
import Derived.Test.YtcdkopidgibijaaWTab
import Derived.KernelRfl
import Derived.Tactics
import Derived.WalkKit
namespace Go.Proofs.Ytcdkopidgibijaa.Row
open Go Go.RowKit Go.Proofs.YtcdkopidgibijaaW.PrintWords Go.Proofs.YtcdkopidgibijaaW.PrintLast Go.Proofs.YtcdkopidgibijaaW.PrintMore
theorem rB_ {α : Type} {d : Kd α} {e base : Nat} {ok : Nat → Prop} {v : Value} {xs : List α} {W0 W w1 : World} (h : Aside0 (d.R e W0 base ok v xs)) (hb : Below W.heap.size W w1)
    (hW : d.R e W0 base ok v xs → d.R e W base ok v xs := by (intro h_; (with_reducible repeat (first | apply Kd.R_alloc | apply Kd.R_drewN | apply Kd.R_drew)); exact h_)) : Aside0 (d.R e w1 base ok v xs) := ⟨Kd.R_below (hW h.out) hb⟩
/-- What the blocks hold, found by their names. -/
theorem cells_ {p : Prop} (h : p := by (repeat' (first | apply And.intro | exact (blk_cell (Aside0.out (by assumption)) _).trans rfl))) : p := h
/-- A row of tests, by its number. -/
def bs (n m : Nat) : Array Bool := ⟨(List.range n).map fun i => m.testBit i⟩
theorem below_ {w W : World} (h : Below w.heap.size w W := by (repeat (first | (with_reducible first | exact Aside0.out (by assumption) | apply below_alloc | apply pw_below_drewN | apply below_drew1 | refine below_set ?_ (Aside0.out (by assumption))) | exact Aside0.out (by assumption)))) : Below w.heap.size w W := h
theorem rM_ {α : Type} {d : Kd α} {e base : Nat} {ok : Nat → Prop} {v : Value} {xs : List α} {W0 W : World} (h : d.R e W0 base ok v xs) (hW : d.R e W0 base ok v xs → d.R e W base ok v xs := by (intro h_; (with_reducible repeat (first | apply Kd.R_alloc | apply Kd.R_drewN | apply Kd.R_drew)); exact h_)) : d.R e W base ok v xs := hW h
theorem oR_ {α : Type} {d : Kd α} {e base : Nat} {ok : Nat → Prop} {v : Value} {xs : List α} {W : World} (h : Aside0 (d.R e W base ok v xs)) {k : Nat} (hk : k < base ∨ W.heap.size ≤ k) : some k ≠ v.ownBlock := Or.elim hk (fun hs e_ => Nat.not_le.2 hs (Kd.R_base h.out k e_.symm)) (fun hn => Kd.fresh' (Kd.R_lt h.out) k hn)
theorem oB_ {g n k : Nat} {o : Obj} {W : World} (hg : Aside0 (n ≤ g)) (hB : Aside0 (W.heap[g]? = some o)) (hk : k < n ∨ W.heap.size ≤ k) : k ≠ g := Or.elim hk (fun hs e_ => Nat.not_le.2 hs (by rw [e_]; exact hg.out)) (fun hn => Kd.freshB hB.out k hn)
theorem b_ {g : Nat} {o : Obj} {w w1 : World} (h : Aside0 (w.heap[g]? = some o)) (hb : Below w.heap.size w w1) : Aside0 (w1.heap[g]? = some o) := ⟨blk_below h.out hb⟩
theorem s_ {w W w2 : World} (h : Aside0 (Below w.heap.size w W)) (k : Below W.heap.size W w2) : Aside0 (Below w.heap.size w w2) := ⟨below_step h.out k⟩
theorem rB0_ {α : Type} {d : Kd α} {e base : Nat} {ok : Nat → Prop} {v : Value} {xs : List α} {W w1 : World} (h : Aside0 (d.R e W base ok v xs)) (hb : Below W.heap.size W w1) : Aside0 (d.R e w1 base ok v xs) := ⟨Kd.R_below h.out hb⟩
theorem rE_ {α β : Type} {d : Kd α} {d' : Kd β} {e e' base : Nat} {ok ok' : Nat → Prop} {u v : Value} {xs : List α} {ys : List β} {W w1 : World} (h : Aside0 (d.R e W base ok u xs)) (h0 : d'.R e' w1 W.heap.size ok' v ys) (hb : Below W.heap.size W w1) : Aside0 (d.R e w1 base (fun k => ok k ∧ some k ≠ v.ownBlock) u xs) := ⟨Kd.R_elder' h.out (Kd.R_base h0) hb⟩
theorem rT_ {α β γ : Type} {d : Kd α} {d' : Kd β} {d2 : Kd γ} {e e' e2 base : Nat} {ok ok' ok2 : Nat → Prop} {u v v2 : Value} {xs : List α} {ys : List β} {zs : List γ} {W w1 : World} (h : Aside0 (d.R e W base ok u xs)) (h0 : d'.R e' w1 W.heap.size ok' v ys) (h1 : d2.R e2 w1 W.heap.size ok2 v2 zs) (hb : Below W.heap.size W w1) : Aside0 (d.R e w1 base (fun k => (ok k ∧ some k ≠ v.ownBlock) ∧ some k ≠ v2.ownBlock) u xs) := ⟨Kd.R_mono (Kd.R_told (Kd.R_told (Kd.R_old h.out hb) (Kd.R_base h0)) (Kd.R_base h1)) (fun _ h_ => h_.1)⟩
theorem bnd_ {α β : Type} {o : Option α} {f : α → Option β} {r : β} (h : o.bind f = some r) : ∃ x, Aside0 (o = some x) ∧ f x = some r := by
  obtain ⟨x, h1, h2⟩ := Option.bind_eq_some_iff.mp h
  exact ⟨x, ⟨h1⟩, h2⟩
section
variable {P : Program} {ops : Array Oper} {Q : Exit → Act → World → Prop} {md : Region.Mode} {S : World → Prop} {ds : List Nat} {T : Bool × List (List Nat × List Nat)} {B : List Nat}
theorem t_ (i n nb m : Nat) {oi : Oper} {v : Value} {fuel : Nat} {l : Array Bool} {a a' : Act} {w : World} (HT : Aside0 (rtab md ops = T)) (HW : Aside0 (waitsOk T.2 B = true)) (hS : S w) (h : wpAnyLast P md ops Q S ds fuel (bs nb m) a' w)
    (hc : takeW T B ds l.toList (bs nb m).toList i = true := by kernel_rfl)
    (hi : ops[i]? = some oi := by rfl) (hN : oi.dst = some n := by rfl) (hw : Region.wanted oi (yielded ops a.tmps) = true := by rfl)
    (hy : ∀ w, S w → (execOp a.eval oi).run P w = .ok (.value v) w := by (intro w' hS_; go_simp; with_reducible rfl)) (ha : a.put (some n) v = a' := by (simp only [Act.put, List.setIfInBounds_toArray, List.set_cons_zero, List.set_cons_succ, i64_w, i32_w]; rfl))
    (hQ : ∀ c a w, Q (.panic c) (a.put oi.dst v) w → Q (.panic c) a w := by exact fun _ _ _ h => h) : wpAnyLast P md ops Q S ds (fuel + 1) l a w := take_ (bs nb m) hi hN (take_ofW HT.out HW.out hc) hQ (Or.inl ⟨hw, hy⟩) hS ha h
theorem p_ (i n nb m : Nat) {oi : Oper} {v : Value} {fuel : Nat} {l : Array Bool} {a a' : Act} {w : World} (HT : Aside0 (rtab md ops = T)) (h : wpAnyLast P md ops Q S ds fuel (bs nb m) a' w)
    (hc : anyT T l.toList (bs nb m).toList i = true := by kernel_rfl)
    (hi : ops[i]? = some oi := by rfl) (hN : oi.dst = some n := by rfl) (hw : Region.wanted oi (yielded ops a.tmps) = true := by rfl)
    (hy : ∀ w, (execOp a.eval oi).run P w = .ok (.value v) w := by (intro w'; go_simp; with_reducible rfl)) (ha : a.put (some n) v = a' := by (simp only [Act.put, List.setIfInBounds_toArray, List.set_cons_zero, List.set_cons_succ, i64_w, i32_w]; rfl))
    (hQ : ∀ c a w, Q (.panic c) (a.put oi.dst v) w → Q (.panic c) a w := by exact fun _ _ _ h => h) : wpAnyLast P md ops Q S ds (fuel + 1) l a w := pure_ (bs nb m) hi hN (any_of HT.out hc) hQ (Or.inl ⟨hw, hy⟩) ha h
theorem o_ (i : Nat) (N : Option Tmp) (nb m : Nat) {oi : Oper} {fuel : Nat} {l : Array Bool} {a : Act} {w : World} (HT : Aside0 (rtab md ops = T))
    (h : ∀ K : Act → World → Prop, Shut (∀ a' w', S w' → (S w' → wpAnyLast P md ops Q S ds fuel (bs nb m) a' w') → K a' w') → if Region.wanted oi (yielded ops a.tmps) = true then Oper.wp P oi a w K Q else K (a.put N undef) w)
    (hc : (readyT T.2 l.toList == [i] && l.toList.set i true == (bs nb m).toList) = true := by kernel_rfl)
    (hi : ops[i]? = some oi := by rfl) (hN : oi.dst = N := by rfl) (hd : i ∉ ds := by decide) : wpAnyLast P md ops Q S ds (fuel + 1) l a w := one_ (bs nb m) hi hN (one_of HT.out hc) hd h
end
end Go.Proofs.Ytcdkopidgibijaa.Row
