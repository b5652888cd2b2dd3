/- An own row behind a call: by its name. -/
import Derived.Test.YtcdkopidgibijaaWLast
import Derived.Test.YtcdkopidgibijaaWMore
namespace Go.Proofs.Ytcdkopidgibijaa.Row
open Go Go.RowKit Go.Proofs.YtcdkopidgibijaaW.PrintWords Go.Proofs.YtcdkopidgibijaaW.PrintLast Go.Proofs.YtcdkopidgibijaaW.PrintMore
theorem rB_ {α : Type} {d : Kd α} {e base : Nat} {ok : Nat → Prop} {v : Value} {xs : List α} {W0 W w1 : World} (h : Aside0 (d.R e W0 base ok v xs)) (hb : Below W.heap.size W w1)
    (hW : d.R e W0 base ok v xs → d.R e W base ok v xs := by (intro h_; (with_reducible repeat (first | apply Kd.R_alloc | apply Kd.R_drewN | apply Kd.R_drew)); exact h_)) : Aside0 (d.R e w1 base ok v xs) := ⟨Kd.R_below (hW h.out) hb⟩
/-- What the blocks hold, found by their names. -/
theorem cells_ {p : Prop} (h : p := by (repeat' (first | apply And.intro | exact (blk_cell (Aside0.out (by assumption)) _).trans rfl))) : p := h
/-- A row of tests, by its number. -/
def bs (n m : Nat) : Array Bool := ⟨(List.range n).map fun i => m.testBit i⟩
theorem below_ {w W : World} (h : Below w.heap.size w W := by (repeat (first | (with_reducible first | exact Aside0.out (by assumption) | apply below_alloc | apply pw_below_drewN | apply below_drew1 | refine below_set ?_ (Aside0.out (by assumption))) | exact Aside0.out (by assumption)))) : Below w.heap.size w W := h
theorem rM_ {α : Type} {d : Kd α} {e base : Nat} {ok : Nat → Prop} {v : Value} {xs : List α} {W0 W : World} (h : d.R e W0 base ok v xs) (hW : d.R e W0 base ok v xs → d.R e W base ok v xs := by (intro h_; (with_reducible repeat (first | apply Kd.R_alloc | apply Kd.R_drewN | apply Kd.R_drew)); exact h_)) : d.R e W base ok v xs := hW h
end Go.Proofs.Ytcdkopidgibijaa.Row
