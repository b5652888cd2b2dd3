/- 'for k, x := range slices.Backward(a)': the iterator's contract, at rows of 32 bits each. -/
import Derived.RangeFuncNested
import Derived.RangeFuncBound
import Derived.RangeFuncCalls
import Derived.RangeFuncLeaves
import Derived.RangeFuncBox
import Derived.Shelf.Abstract
import Derived.Shelf.RegionOpen
import Derived.WalkKit
import Derived.OwnWalkIn
import Derived.TacticsInMore
import Derived.LoopNIn
import Derived.LoopIn
import Derived.Test.YtcdkopidgibijaaProg
import Derived.Test.YtcdkopidgibijaaWWords
namespace Go.Proofs.Ytcdkopidgibijaa.Back
open Go.RowKit Go.Shelf

attribute [local go_sem] Oper.semAt_some

/-- A post of which nothing is asked where the code panics: a region that draws its order is walked under it. -/
def noPanic (Q : Exit → Act → World → Prop) : Exit → Act → World → Prop
  | .panic _, _, _ => False
  | e, a, w => Q e a w
theorem wpIn_noPanic {F : Fence} {n : Nat} {P : Program} {c : Code} {Q : Exit → Act → World → Prop} {a : Act} {w : World} (h : c.wpIn F n P (noPanic Q) a w) : c.wpIn F n P Q a w :=
  wpIn_mono h (fun e a w h => by cases e <;> first | exact h | exact h.elim)

theorem wp_noPanic {P : Program} {c : Code} {Q : Exit → Act → World → Prop} {a : Act} {w : World} (h : c.wp P (noPanic Q) a w) : c.wp P Q a w :=
  (wpIn_wide (n := 0)).1 (wpIn_noPanic (wpIn_wide.2 h))
theorem noPanic_then {K : Act → World → Prop} {Q : Exit → Act → World → Prop} {a : Act} {w : World} (h : K a w) : noPanic (Exit.then K Q) .normal a w := h

/-- A piece of code that goes on, and in no other way: what holds behind it is told by Mid. -/
def only (Mid : Act → World → Prop) : Exit → Act → World → Prop
  | .normal, a, w => Mid a w
  | _, _, _ => False
theorem wpIn_piece {F : Fence} {n : Nat} {P : Program} {c : Code} {Q : Exit → Act → World → Prop} {a : Act} {w : World} (Mid : Act → World → Prop) (h : c.wpIn F n P (only Mid) a w) (h2 : ∀ a w, Mid a w → Q .normal a w) : c.wpIn F n P Q a w :=
  wpIn_mono h (fun e a w h => by cases e <;> first | exact h2 _ _ h | exact h.elim)
theorem wp_piece {P : Program} {c : Code} {Q : Exit → Act → World → Prop} {a : Act} {w : World} (Mid : Act → World → Prop) (h : c.wp P (only Mid) a w) (h2 : ∀ a w, Mid a w → Q .normal a w) : c.wp P Q a w :=
  (wpIn_wide (n := 0)).1 (wpIn_piece Mid (wpIn_wide.2 h) h2)
theorem only_then {K : Act → World → Prop} {Q : Exit → Act → World → Prop} {a : Act} {w : World} (h : K a w) : Exit.then K Q .normal a w := h

/-- The index, and the word, of round j: from the end on. (Elements are told to the loop's body by their rounds' numbers: so it knows that the index is one.) -/
def ix (len j : Nat) : Nat := len - 1 - j
def wd (zs : List Int) (j : Nat) : Int := zs[ix zs.length j]?.getD 0

/-- What lay below n₀ lies as it lay, and so does the block Bs (the variable that the closure has captured). -/
def KB (n₀ Bs : Nat) (W W' : World) : Prop := Below n₀ W W' ∧ W'.heap[Bs]? = W.heap[Bs]?
theorem KB.refl (n₀ Bs : Nat) (W : World) : KB n₀ Bs W W := ⟨Below.refl _ _, rfl⟩
theorem KB.trans {n₀ Bs : Nat} {A B C : World} (h : KB n₀ Bs A B) (k : KB n₀ Bs B C) : KB n₀ Bs A C := ⟨h.1.trans k.1, k.2.trans h.2⟩
theorem KB.putObj {n₀ Bs : Nat} {w : World} (hn : n₀ ≤ w.heap.size) (hB : Bs < w.heap.size) (W : World) (l : Nat) (o o' : Obj) (hl : w.heap.size ≤ l) (h : W.heap[l]? = some o) (h1 : o.isCells = false) (h2 : o.isWalk = false) : KB n₀ Bs W (W.putObj l o') :=
  ⟨belowK_b hn W l o o' hl h h1 h2, World.putObj_heap_other (by omega)⟩
theorem KB.cell {n₀ Bs : Nat} {W W' : World} (h : KB n₀ Bs W W') : W'.cell? ⟨Bs, 0, none⟩ = W.cell? ⟨Bs, 0, none⟩ := World.cell?_of_block (w := W) h.2
theorem KB.setCell {n₀ Bs : Nat} {W : World} {b : Nat} (h : n₀ ≤ b) (hb : Bs ≠ b) (v : Value) : KB n₀ Bs W (W.setCell ⟨b, 0, none⟩ v) :=
  ⟨(Below.refl n₀ W).setCell (p := ⟨b, 0, none⟩) h v, Below.heap_setCell W ⟨b, 0, none⟩ v Bs hb⟩

set_option maxRecDepth 100000 in
set_option maxHeartbeats 2000000 in
/-- The closure: 'for i := len(s) - 1; i >= 0; i-- { if !yield(i, s[i]) { return } }'. -/
theorem back1_in (F : Fence) (n : Nat) (h8 : F.fn 94) (hro : F.round = none) (hn : 1 ≤ n) (l Bs n₀ b off cap : Nat) (len : Nat) (g : Nat → Int) (hreach : len * 4 ≤ 140737488351232) (hb : b < n₀) (J Jx : List Nat → World → Prop)
    (hY : ∀ pre x W, J pre W → pre.length < len → YieldAt F (n - 1) Try.prog l #[.int .i64 (ix len x : Int), .int .u32 (g (ix len x))] W fun e W' =>
      (e = .returned (.bool true) ∧ J (pre ++ [x]) W' ∧ KB n₀ Bs W W') ∨ (e = .returned (.bool false) ∧ Jx (pre ++ [x]) W'))
    (W : World) (hBs : W.cell? ⟨Bs, 0, none⟩ = some (.slice (some ⟨b, off, none⟩) len cap)) (hc : ∀ j, j < len → W.cell? ⟨b, off + j, none⟩ = some (.int .u32 (g j))) (h0 : J [] W) :
    CallsIn F n Try.prog 94 #[.func (.yield l) #[] #[], .pointer (some ⟨Bs, 0, none⟩)] W fun e W' => (∃ v, e = .returned v) ∧
      ((∃ ys, ys = List.range len ∧ J ys W') ∨ (∃ pre, (∃ k, k ≤ len ∧ pre = List.range k) ∧ Jx pre W')) := by
  refine callsIn_of_wp Try.func94 rfl h8 ?_ hro
  simp only [Try.ntmps94, List.size_toArray, List.length_cons, List.length_nil, Nat.reduceAdd, Nat.reduceSub, Array.replicate_succ, Array.replicate_zero, List.push_toArray, List.append_toArray, List.nil_append, List.cons_append]
  gi_wp2
  gi_loopw [3] (fun i wr => ∃ k : Nat, k ≤ len ∧ i = .int .i64 ((len : Int) - 1 - k) ∧ J (List.range k) wr ∧ KB n₀ Bs W wr)
    (fun i _ => (intOf i + 1).toNat)
  case atStart => exact ⟨0, Nat.zero_le _, by simp, h0, KB.refl _ _ _⟩
  case round =>
    obtain ⟨k, hk, rfl, hJs, hnx⟩ := hrel
    have hBs' := hnx.cell.trans hBs
    by_cases hlt : k < len
    · obtain ⟨q, hq⟩ : ∃ q : Nat, q = ix len k := ⟨_, rfl⟩
      have hqi : (len : Int) - 1 - k = (q : Int) := by unfold ix at hq; omega
      have hql : q < len := by unfold ix at hq; omega
      have hcx : wr.cell? ⟨b, off + q, none⟩ = some (.int .u32 (g q)) := (hnx.1.cell (p := ⟨b, off + q, none⟩) hb).trans (hc q hql)
      obtain ⟨fn, tmps, assign, body, hy, hR⟩ := hY _ k wr hJs (by rw [List.length_range]; exact hlt)
      rw [← hq] at hy
      rw [hqi]
      have hq0 : 0 ≤ (q : Int) := by omega
      have HQI : Hid ((len : Int) - 1 - k = (q : Int)) := hqi
      clear hq hqi
      gi_wp2
      refine hR.mono ?_
      rintro e W3 (⟨rfl, hJ3, hk3⟩ | ⟨rfl, hJx3⟩)
      · gi_wp2
        go_roundw
        case rel => exact ⟨k + 1, by omega, by have := HQI.out; congr 1; omega, by rw [List.range_succ]; exact hJ3, hnx.trans hk3⟩
        case measure => simp [intOf]
      · gi_wp2
        refine bodyPost_ret (results_none rfl _ _ _) rfl ?_
        exact ⟨⟨_, rfl⟩, .inr ⟨_, ⟨k + 1, by omega, by rw [List.range_succ]⟩, hJx3⟩⟩
    · obtain ⟨rfl⟩ : len = k := by omega
      have hz : (len : Int) - 1 - len = -1 := by omega
      rw [hz]
      clear hz
      gi_wp2
      go_end0
      exact ⟨⟨_, rfl⟩, .inl ⟨_, rfl, hJs⟩⟩

set_option maxRecDepth 100000 in
set_option maxHeartbeats 1000000 in
/-- .. at the nil slice: no round. -/
theorem back1_nil_in (F : Fence) (n : Nat) (h8 : F.fn 94) (hro : F.round = none) (l Bs : Nat) (J : List Nat → World → Prop) (W : World) (hBs : W.cell? ⟨Bs, 0, none⟩ = some (.slice none 0 0)) (h0 : J [] W) :
    CallsIn F n Try.prog 94 #[.func (.yield l) #[] #[], .pointer (some ⟨Bs, 0, none⟩)] W fun e W' => (∃ v, e = .returned v) ∧ J [] W' := by
  refine callsIn_of_wp Try.func94 rfl h8 ?_ hro
  simp only [Try.ntmps94, List.size_toArray, List.length_cons, List.length_nil, Nat.reduceAdd, Nat.reduceSub, Array.replicate_succ, Array.replicate_zero, List.push_toArray, List.append_toArray, List.nil_append, List.cons_append]
  gi_wp2
  gi_loopw [3] (fun i wr => i = .int .i64 (-1) ∧ J [] wr) (fun _ _ => 0)
  case atStart => exact ⟨rfl, h0⟩
  case round =>
    obtain ⟨rfl, hJs⟩ := hrel
    gi_wp2
    go_end0
    exact ⟨⟨_, rfl⟩, hJs⟩

set_option maxHeartbeats 1000000 in
/-- slices.Backward(s): the slice value is boxed; the function value captures the box. -/
theorem back_in (F : Fence) (n : Nat) (h6 : F.fn 87) (hro : F.round = none) (a : Option Addr) (len cap : Nat) (w : World) :
    CallsIn F n Try.prog 87 #[.slice a len cap] w fun e w' => e = .returned (.func (.func 94) #[] #[.pointer (some ⟨w.heap.size, 0, none⟩)]) ∧ w' = w.alloc (.cells #[.slice a len cap] 23) := by
  refine callsIn_of_wp Try.func87 rfl h6 ?_ hro
  simp only [Try.ntmps87, List.size_toArray, List.length_cons, List.length_nil, Nat.reduceAdd, Nat.reduceSub, Array.replicate_succ, Array.replicate_zero, List.push_toArray, List.append_toArray, List.nil_append, List.cons_append]
  gi_wp2
  go_ret
  exact ⟨rfl, rfl⟩

/-- The slice value sv holds zs, in a block below n₀; or it is nil and there are none. -/
def Row (n₀ : Nat) (W : World) (sv : Value) (zs : List Int) : Prop :=
  (sv = .slice none 0 0 ∧ zs = []) ∨ ∃ b off cap, sv = .slice (some ⟨b, off, none⟩) zs.length cap ∧ b < n₀ ∧ ∀ j, j < zs.length → W.cell? ⟨b, off + j, none⟩ = some (.int .u32 (zs[j]?.getD 0))
theorem Row.below {n₀ : Nat} {A B : World} (h : Below n₀ A B) {sv : Value} {zs : List Int} : Row n₀ A sv zs → Row n₀ B sv zs
  | .inl e => .inl e
  | .inr ⟨b, off, cap, e, hb, hc⟩ => .inr ⟨b, off, cap, e, hb, fun j hj => (h.cell (p := ⟨b, off + j, none⟩) hb).trans (hc j hj)⟩

open Go.Proofs.YtcdkopidgibijaaW.PrintWords in
theorem Row.ofR {e base n₀ : Nat} {W : World} {ok : Nat → Prop} {v : Value} {zs : List Int} (h : Kd.R (Kd.int .u32) e W base ok v zs) (hn : W.heap.size ≤ n₀) : Row n₀ W v zs := by
  obtain ⟨inner, ho⟩ := Kd.R_own h
  obtain ⟨h1, h2⟩ := ho
  rcases h2 with ⟨rfl, hi⟩ | ⟨g, cap, cur, rfl, hg, hh, _⟩
  · refine .inl ⟨rfl, ?_⟩
    obtain ⟨A, c, e, _⟩ := Kd.R_reads h
    injection e with _ e _
    exact List.eq_nil_of_length_eq_zero e.symm
  · refine .inr ⟨g, 0, cap, rfl, ?_, fun j hj => ?_⟩
    · exact Nat.lt_of_lt_of_le (Array.getElem?_eq_some_iff.1 hh).1 hn
    · have := (Kd.R_celln (0 : Int) h (j : Int) (by omega) (by omega)).1
      simpa [rdOf] using this

/-- slices.Backward(s) hands back a value that tells all pairs, from the end on; or the first k of them. -/
theorem back_stops (F : Fence) (n : Nat) (h8 : F.fn 94) (hro : F.round = none) (hn : 1 ≤ n) (Bs n₀ : Nat) (sv : Value) (zs : List Int) (hreach : zs.length * 4 ≤ 140737488351232) (w : World) (hBs : Bs < w.heap.size) (hn₀ : n₀ ≤ w.heap.size)
    (hc : w.cell? ⟨Bs, 0, none⟩ = some sv) (hI : Row n₀ w sv zs) :
    SeqStopsK F n Try.prog 94 #[.pointer (some ⟨Bs, 0, none⟩)] (fun x : Nat => #[Value.int .i64 (ix zs.length x : Int), Value.int .u32 (wd zs x)]) (KB n₀ Bs) (fun ys => ys = List.range zs.length)
      (fun pre => ∃ k, k ≤ zs.length ∧ pre = List.range k) zs.length w := fun l J Jx W hW _ _ hY h0 => by
  have hc' := (hW.cell (p := ⟨Bs, 0, none⟩) hBs).trans hc
  rcases hI.below (hW.mono hn₀) with ⟨rfl, rfl⟩ | ⟨b, off, cap, rfl, hb, hcs⟩
  · exact (back1_nil_in F n h8 hro l Bs J W hc' h0).mono fun e W' ⟨he, hj⟩ => ⟨he, .inl ⟨_, rfl, hj⟩⟩
  · exact back1_in F n h8 hro hn l Bs n₀ b off cap zs.length (fun j => zs[j]?.getD 0) hreach hb J Jx hY W hc' hcs h0

end Go.Proofs.Ytcdkopidgibijaa.Back
