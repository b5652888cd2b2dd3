/- A body walked over such states: operation by operation, region by region. -/
import Derived.Test.YtcdkopidgibijaaStep
import Derived.Test.YtcdkopidgibijaaWFootNe
import Derived.Test.YtcdkopidgibijaaWLast
namespace Go.Proofs.Ytcdkopidgibijaa.Lin
open Go Go.RowKit Go.Proofs.YtcdkopidgibijaaW.PrintWords Go.Proofs.YtcdkopidgibijaaW.PrintMore

/-! ### The program's types, as they are asked for -/
class FldT (P : Program) (T f : Nat) (d : outParam Nat) : Prop where h : fieldT P T f = some d
class RowT (P : Program) (T : Nat) (n : outParam Nat) : Prop where
  h : isRowT P T = true
  n : sizeT P T = some n
class OneT (P : Program) (T : Nat) : Prop where
  h : isOneT P T = true
  n : sizeT P T = some 1
class ZeroT (P : Program) (T : Nat) (cs : outParam (List Value)) (ys : outParam (List At)) : Prop where
  h : zeroT P T = some cs
  y : cs.map atOf = ys
class PlcT (P : Program) (T : Nat) (pl : outParam (List (Nat × Nat))) : Prop where h : placesT P T = some pl
def fieldOneT (P : Program) (T : TypeId) (f : Nat) : Option Nat := match P.underlying T with
  | some (.struct fs) => match fs[f]? with
    | some fl => bif isOneT P fl.type then some fl.offset else none
    | none => none
  | _ => none
class FlvT (P : Program) (T f : Nat) (d : outParam Nat) : Prop where h : fieldOneT P T f = some d
class SlcT (P : Program) (T : Nat) (e : outParam Nat) : Prop where h : P.underlying T = some (.slice e)
/-- What is answered: found by its form. -/
class Ans {α : Type} (o : Option α) (r : outParam α) : Prop where out : o = some r
class Tl (P : Program) (f : Nat) (ds : List El) (r : outParam Rs) : Prop where t : Tells P f ds r
theorem bnd {α β : Type} {o : Option α} {f : α → Option β} {r : β} (h : o.bind f = some r) : ∃ x, Ans o x ∧ f x = some r := by
  obtain ⟨x, h1, h2⟩ := Option.bind_eq_some_iff.mp h
  exact ⟨x, ⟨h1⟩, h2⟩
class IntT (P : Program) (T : Nat) (k : outParam IntKind) : Prop where h : P.underlying T = some (.int k)
class BolT (P : Program) (T : Nat) : Prop where h : P.underlying T = some .bool
/-- A test's answer, out of what is known. -/
theorem sol_ {p : Prop} (h : p := by first | rfl | assumption | exact Bool.eq_false_iff.mpr (by assumption) | exact decide_eq_true (by assumption) | exact decide_eq_false (by assumption) | exact beq_iff_eq.mpr (by assumption) | exact beq_eq_false_iff_ne.mpr (by assumption) | (simp [*] <;> fail)) : p := h
theorem bndK {α β : Type} {o : Option α} {x : α} {f : α → Option β} {r : β} [i : Ans o x] (h : o.bind f = some r) : f x = some r := by
  rw [i.out] at h
  exact h
class Mixed (P : Program) : Prop where h : P.follows .mixedOrders = true

section
variable {P : Program} {ops : Array Oper} {s0 : St} {G : St → List Tr → Prop} {o : Oper} {rest : List Oper} {i : Nat} {l : List Tr} {n : Nat} {env : List (Nat × Den)} {box : List (Nat × TypeId × List At)}
def Run (P : Program) (ops : Array Oper) (s0 : St) (G : St → List Tr → Prop) (rest : List Oper) (i : Nat) (l : List Tr) (n : Nat) (env : List (Nat × Den)) (box : List (Nat × TypeId × List At)) : Prop :=
  Chain P ops s0 l → l.length = i → appAll s0 l = ⟨n, env, box⟩ → ops.toList.drop i = rest → ∃ l', Chain P ops s0 l' ∧ l'.length = ops.size ∧ G (appAll s0 l') l'
theorem Chain.len_le {l : List Tr} (h : Chain P ops s0 l) : l.length ≤ ops.size := by
  cases h with
  | nil => exact Nat.zero_le _
  | cons h ho hs => exact (Array.getElem?_eq_some_iff.1 ho).1
theorem Run.nil (h : G ⟨n, env, box⟩ l) : Run P ops s0 G [] i l n env box := fun hc hi hs hd => ⟨l, hc, Nat.le_antisymm hc.len_le (by rw [hi]; simpa using List.drop_eq_nil_iff.1 hd), by rw [hs]; exact h⟩
theorem Run.cons {rs : List Nat} {x : Wr} {env' : List (Nat × Den)} {box' : List (Nat × TypeId × List At)} (hs : StepOk P ops ⟨n, env, box⟩ o rs x) (h : Run P ops s0 G rest (i + 1) (⟨i, rs, x⟩ :: l) n env' box') (hx : x.app ⟨n, env, box⟩ = ⟨n, env', box'⟩) : Run P ops s0 G (o :: rest) i l n env box := fun hc hi he hd => by
  subst hi
  have hget : ops.toList[l.length]? = some o := by
    have := List.getElem?_drop (xs := ops.toList) (i := l.length) (j := 0)
    rw [hd] at this
    simpa using this.symm
  refine h (Chain.cons hc (by simpa using hget) (by rw [he]; exact hs)) rfl (by show x.app (appAll s0 l) = _; rw [he]; exact hx) ?_
  rw [← List.drop_drop, hd]
  rfl
/-- An operation is carried out; its guard's place is g. -/
structure GOn (ops : Array Oper) (env : List (Nat × Den)) (o : Oper) (g : List Nat) : Prop where
  on : guardIs ops env o = some true
  rd : rdGuard ops o = g
theorem GOn.none (h : o.guard = .none) : GOn ops env o [] := ⟨by unfold guardIs; rw [h], by unfold rdGuard; rw [h]⟩
theorem GOn.some {j d : Nat} {b c : Bool} (h : o.guard = .some (j, b)) (hd : (ops[j]?).bind (·.dst) = .some d) (hv : get env d = .rs (.el (.one (.val (.bool c))))) (hc : c = b := by exact sol_) : GOn ops env o [2 * d] := ⟨by subst hc; unfold guardIs; simp [h, hd, hv], by unfold rdGuard; simp [h, hd]⟩
theorem blt {a b : Nat} (h : Nat.blt a b = true) : a < b := Nat.le_of_ble_eq_true h
variable {t k off : Nat} {x y : Operand} {e : El} {T T0 : TypeId} {xs : List At}
variable {g : List Nat}
/-- What is left out by its guard. -/
theorem Run.skp {j d : Nat} {b c : Bool} (h : Run P ops s0 G rest (i + 1) (⟨i, [2 * d], .slot t .und⟩ :: l) n ((t, .und) :: env) box) (hg : o.guard = .some (j, b) := by rfl) (hj : (ops[j]?).bind (·.dst) = .some d := by rfl) (hv : get env d = .rs (.el (.one (.val (.bool c)))) := by rfl) (hc : c = !b := by exact sol_) (hd : o.dst = .some t := by rfl) (ht : Nat.blt t n = true := by rfl) : Run P ops s0 G (o :: rest) i l n env box :=
  Run.cons (step_off (s := ⟨n, env, box⟩) hd (blt ht) (by subst hc; unfold guardIs; simp only [hg, hj, hv]; cases b <;> rfl) (fun _ h => by unfold rdGuard at h; simpa [hg, hj] using h)) h rfl
theorem Run.skp0 {j d : Nat} {b : Bool} (h : Run P ops s0 G rest (i + 1) (⟨i, [2 * d], .slot t .und⟩ :: l) n ((t, .und) :: env) box) (hg : o.guard = .some (j, b) := by rfl) (hj : (ops[j]?).bind (·.dst) = .some d := by rfl) (hv : get env d = .und := by rfl) (hd : o.dst = .some t := by rfl) (ht : Nat.blt t n = true := by rfl) : Run P ops s0 G (o :: rest) i l n env box :=
  Run.cons (step_off (s := ⟨n, env, box⟩) hd (blt ht) (by unfold guardIs; simp only [hg, hj, hv]) (fun _ h => by unfold rdGuard at h; simpa [hg, hj] using h)) h rfl
theorem Run.mv {r : Rs} (h : Run P ops s0 G rest (i + 1) (⟨i, g ++ rdOp x, .slot t (.rs r)⟩ :: l) n ((t, .rs r) :: env) box) (hop : o.op = .move x := by rfl) (hb : GOn ops env o g := by first | exact GOn.none rfl | exact GOn.some rfl rfl rfl) (hd : o.dst = some t := by rfl) (hx : denOf env x = .rs r := by rfl) (ht : Nat.blt t n = true := by rfl) : Run P ops s0 G (o :: rest) i l n env box :=
  Run.cons (rs := g ++ rdOp x) (by rw [← hx]; exact step_move (s := ⟨n, env, box⟩) (.inl hop) hd (blt ht) hb.on (fun _ h => List.mem_append_left _ (hb.rd ▸ h)) (fun _ h => List.mem_append_right _ h)) h rfl
theorem Run.asg {r : Rs} (h : Run P ops s0 G rest (i + 1) (⟨i, g ++ rdOp x, .slot t (.rs r)⟩ :: l) n ((t, .rs r) :: env) box) (hop : o.op = .assign x := by rfl) (hb : GOn ops env o g := by first | exact GOn.none rfl | exact GOn.some rfl rfl rfl) (hd : o.dst = some t := by rfl) (hx : denOf env x = .rs r := by rfl) (ht : Nat.blt t n = true := by rfl) : Run P ops s0 G (o :: rest) i l n env box :=
  Run.cons (rs := g ++ rdOp x) (by rw [← hx]; exact step_move (s := ⟨n, env, box⟩) (.inr hop) hd (blt ht) hb.on (fun _ h => List.mem_append_left _ (hb.rd ▸ h)) (fun _ h => List.mem_append_right _ h)) h rfl
theorem Run.ext {es : List El} {ix : Nat} (h : Run P ops s0 G rest (i + 1) (⟨i, g ++ rdOp x, .slot t (.rs (.el e))⟩ :: l) n ((t, .rs (.el e)) :: env) box) (hop : o.op = .extract x ix := by rfl) (hb : GOn ops env o g := by first | exact GOn.none rfl | exact GOn.some rfl rfl rfl) (hd : o.dst = some t := by rfl) (hx : denOf env x = .rs (.tup es) := by rfl) (he : es[ix]? = some e := by rfl) (ht : Nat.blt t n = true := by rfl) : Run P ops s0 G (o :: rest) i l n env box :=
  Run.cons (rs := g ++ rdOp x) (step_extract (s := ⟨n, env, box⟩) hop hd (blt ht) hb.on (fun _ h => List.mem_append_left _ (hb.rd ▸ h)) (fun _ h => List.mem_append_right _ h) hx he) h rfl
theorem Run.ld {m : Nat} {ys : List At} (h : Run P ops s0 G rest (i + 1) (⟨i, g ++ (rdOp x ++ [2 * k + 1]), .slot t (.rs (.el (.agg ys)))⟩ :: l) n ((t, .rs (.el (.agg ys))) :: env) box) (hop : o.op = .load T x) (ic : RowT P T m) (hb : GOn ops env o g) (hd : o.dst = some t) (hx : denOf env x = .ptr k off)
    (hk : boxOf box k = some (T0, xs)) (hle : Nat.ble (off + m) xs.length = true) (hy : (xs.drop off).take m = ys) (ht : Nat.blt t n = true) : Run P ops s0 G (o :: rest) i l n env box :=
  Run.cons (rs := g ++ (rdOp x ++ [2 * k + 1])) (by rw [← hy]; exact step_load (s := ⟨n, env, box⟩) hop hd (blt ht) hb.on (fun _ h => List.mem_append_left _ (hb.rd ▸ h)) (fun _ h => List.mem_append_right _ (List.mem_append_left _ h)) hx hk (by simp) ic.h ic.n (Nat.le_of_ble_eq_true hle)) h rfl
theorem Run.ld2 {z1 z2 : At} (h : Run P ops s0 G rest (i + 1) (⟨i, g ++ (rdOp x ++ [2 * k + 1]), .slot t (.rs (.el (.agg [z1, z2])))⟩ :: l) n ((t, .rs (.el (.agg [z1, z2]))) :: env) box) (hop : o.op = .load T x := by rfl) (ic : RowT P T 2 := by infer_instance) (hb : GOn ops env o g := by first | exact GOn.none rfl | exact GOn.some rfl rfl rfl) (hd : o.dst = some t := by rfl) (hx : denOf env x = .ptr k off := by rfl)
    (hk : boxOf box k = some (T0, xs) := by rfl) (hle : Nat.ble (off + 2) xs.length = true := by rfl) (hy : (xs.drop off).take 2 = [z1, z2] := by rfl) (ht : Nat.blt t n = true := by rfl) : Run P ops s0 G (o :: rest) i l n env box := Run.ld h hop ic hb hd hx hk hle hy ht
theorem Run.ld3 {z1 z2 z3 : At} (h : Run P ops s0 G rest (i + 1) (⟨i, g ++ (rdOp x ++ [2 * k + 1]), .slot t (.rs (.el (.agg [z1, z2, z3])))⟩ :: l) n ((t, .rs (.el (.agg [z1, z2, z3]))) :: env) box) (hop : o.op = .load T x := by rfl) (ic : RowT P T 3 := by infer_instance) (hb : GOn ops env o g := by first | exact GOn.none rfl | exact GOn.some rfl rfl rfl) (hd : o.dst = some t := by rfl) (hx : denOf env x = .ptr k off := by rfl)
    (hk : boxOf box k = some (T0, xs) := by rfl) (hle : Nat.ble (off + 3) xs.length = true := by rfl) (hy : (xs.drop off).take 3 = [z1, z2, z3] := by rfl) (ht : Nat.blt t n = true := by rfl) : Run P ops s0 G (o :: rest) i l n env box := Run.ld h hop ic hb hd hx hk hle hy ht
theorem Run.ld1 {z : At} (h : Run P ops s0 G rest (i + 1) (⟨i, g ++ (rdOp x ++ [2 * k + 1]), .slot t (.rs (.el (.one z)))⟩ :: l) n ((t, .rs (.el (.one z))) :: env) box) (hop : o.op = .load T x := by rfl) (ic : OneT P T := by infer_instance) (hb : GOn ops env o g := by first | exact GOn.none rfl | exact GOn.some rfl rfl rfl) (hd : o.dst = some t := by rfl) (hx : denOf env x = .ptr k off := by rfl)
    (hk : boxOf box k = some (T0, xs) := by rfl) (hy : xs[off]? = some z := by rfl) (ht : Nat.blt t n = true := by rfl) : Run P ops s0 G (o :: rest) i l n env box :=
  Run.cons (rs := g ++ (rdOp x ++ [2 * k + 1])) (step_load1 (s := ⟨n, env, box⟩) hop hd (blt ht) hb.on (fun _ h => List.mem_append_left _ (hb.rd ▸ h)) (fun _ h => List.mem_append_right _ (List.mem_append_left _ h)) hx hk (by simp) ic.h hy) h rfl
theorem Run.fld {f d : Nat} {off' : Nat} (h : Run P ops s0 G rest (i + 1) (⟨i, g ++ rdOp x, .slot t (.ptr k off')⟩ :: l) n ((t, .ptr k off') :: env) box) (hop : o.op = .fieldAddr T x f := by rfl) (ic : FldT P T f d := by infer_instance) (hb : GOn ops env o g := by first | exact GOn.none rfl | exact GOn.some rfl rfl rfl) (hd : o.dst = some t := by rfl) (hx : denOf env x = .ptr k off := by rfl) (ho : off + d = off' := by rfl) (ht : Nat.blt t n = true := by rfl) : Run P ops s0 G (o :: rest) i l n env box :=
  Run.cons (rs := g ++ rdOp x) (by rw [← ho]; exact step_fieldAddr (s := ⟨n, env, box⟩) hop hd (blt ht) hb.on (fun _ h => List.mem_append_left _ (hb.rd ▸ h)) (fun _ h => List.mem_append_right _ h) hx ic.h) h rfl
theorem Run.bx_ {ys : List At} (h : Run P ops s0 G rest (i + 1) (⟨i, g ++ (rdOp x ++ [2 * t + 1]), .new t T ys⟩ :: l) n ((t, .ptr t 0) :: env) ((t, T, ys) :: box)) (hop : o.op = .box T x) (hb : GOn ops env o g) (hd : o.dst = some t) (hx : denOf env x = .rs (.el e)) (hf : boxOf box t = none) (hy : flat e = ys) (ht : Nat.blt t n = true) : Run P ops s0 G (o :: rest) i l n env box :=
  Run.cons (rs := g ++ (rdOp x ++ [2 * t + 1])) (by rw [← hy]; exact step_box (s := ⟨n, env, box⟩) hop hd (blt ht) hb.on (fun _ h => List.mem_append_left _ (hb.rd ▸ h)) (fun _ h => List.mem_append_right _ (List.mem_append_left _ h)) hx hf (by simp)) h rfl
theorem Run.bx {ys : List At} (h : Run P ops s0 G rest (i + 1) (⟨i, g ++ (rdOp x ++ [2 * t + 1]), .new t T ys⟩ :: l) n ((t, .ptr t 0) :: env) ((t, T, ys) :: box)) (hop : o.op = .box T x := by rfl) (hb : GOn ops env o g := by first | exact GOn.none rfl | exact GOn.some rfl rfl rfl) (hd : o.dst = some t := by rfl) (hx : denOf env x = .rs (.el (.agg ys)) := by rfl) (hf : boxOf box t = none := by rfl) (ht : Nat.blt t n = true := by rfl) : Run P ops s0 G (o :: rest) i l n env box := Run.bx_ h hop hb hd hx hf rfl ht
theorem Run.bx1 {z : At} (h : Run P ops s0 G rest (i + 1) (⟨i, g ++ (rdOp x ++ [2 * t + 1]), .new t T [z]⟩ :: l) n ((t, .ptr t 0) :: env) ((t, T, [z]) :: box)) (hop : o.op = .box T x := by rfl) (hb : GOn ops env o g := by first | exact GOn.none rfl | exact GOn.some rfl rfl rfl) (hd : o.dst = some t := by rfl) (hx : denOf env x = .rs (.el (.one z)) := by rfl) (hf : boxOf box t = none := by rfl) (ht : Nat.blt t n = true := by rfl) : Run P ops s0 G (o :: rest) i l n env box := Run.bx_ h hop hb hd hx hf rfl ht
theorem Run.al {cs : List Value} {ys : List At} (h : Run P ops s0 G rest (i + 1) (⟨i, g ++ [2 * t + 1], .new t T ys⟩ :: l) n ((t, .ptr t 0) :: env) ((t, T, ys) :: box)) (hop : o.op = .alloc T := by rfl) (ic : ZeroT P T cs ys := by infer_instance) (hb : GOn ops env o g := by first | exact GOn.none rfl | exact GOn.some rfl rfl rfl) (hd : o.dst = some t := by rfl) (hf : boxOf box t = none := by rfl) (ht : Nat.blt t n = true := by rfl) : Run P ops s0 G (o :: rest) i l n env box :=
  Run.cons (rs := g ++ [2 * t + 1]) (by rw [← ic.y]; exact step_alloc (s := ⟨n, env, box⟩) hop hd (blt ht) hb.on (fun _ h => List.mem_append_left _ (hb.rd ▸ h)) ic.h hf (by simp)) h rfl
/-- A variable is written. -/
theorem Run.st_ {ys : List At} (h : Run P ops s0 G rest (i + 1) (⟨i, g ++ (rdOp x ++ (rdOp y ++ [2 * k + 1])), .box k T0 ys⟩ :: l) n env ((k, T0, ys) :: box)) (hop : o.op = .store T x y) (hb : GOn ops env o g) (hd : o.dst = none) (hx : denOf env x = .ptr k off)
    (hk : boxOf box k = some (T0, xs)) (hro : Nat.blt k 1000 = true) (he : denOf env y = .rs (.el e)) (hm : sizeT P T = some (flat e).length) (hle : Nat.ble (off + (flat e).length) xs.length = true) (hy : xs.take off ++ flat e ++ xs.drop (off + (flat e).length) = ys) : Run P ops s0 G (o :: rest) i l n env box :=
  Run.cons (rs := g ++ (rdOp x ++ (rdOp y ++ [2 * k + 1]))) (by rw [← hy]; exact step_store (s := ⟨n, env, box⟩) hop hd hb.on (fun _ h => List.mem_append_left _ (hb.rd ▸ h)) (fun _ h => List.mem_append_right _ (List.mem_append_left _ h)) (fun _ h => List.mem_append_right _ (List.mem_append_right _ (List.mem_append_left _ h))) hx hk (blt hro) (by simp) he hm (Nat.le_of_ble_eq_true hle)) h rfl
theorem Run.st {m : Nat} {ys : List At} (h : Run P ops s0 G rest (i + 1) (⟨i, g ++ (rdOp x ++ (rdOp y ++ [2 * k + 1])), .box k T0 ys⟩ :: l) n env ((k, T0, ys) :: box)) (hop : o.op = .store T x y := by rfl) (ic : RowT P T m := by infer_instance) (hb : GOn ops env o g := by first | exact GOn.none rfl | exact GOn.some rfl rfl rfl) (hd : o.dst = none := by rfl) (hx : denOf env x = .ptr k 0 := by rfl)
    (hk : boxOf box k = some (T0, xs) := by rfl) (hro : Nat.blt k 1000 = true := by rfl) (he : denOf env y = .rs (.el (.agg ys)) := by rfl) (hm : Nat.beq ys.length m = true := by rfl) (hle : Nat.beq ys.length xs.length = true := by rfl) : Run P ops s0 G (o :: rest) i l n env box :=
  Run.st_ h hop hb hd hx hk hro he ((ic.n).trans (congrArg some (Nat.eq_of_beq_eq_true hm).symm)) (by rw [Nat.zero_add]; exact Nat.ble_eq_true_of_le (Nat.le_of_eq (Nat.eq_of_beq_eq_true hle))) (by
    show xs.take 0 ++ ys ++ xs.drop (0 + ys.length) = ys
    rw [Nat.zero_add, Nat.eq_of_beq_eq_true hle]
    simp)
theorem Run.st1 {z z0 : At} (h : Run P ops s0 G rest (i + 1) (⟨i, g ++ (rdOp x ++ (rdOp y ++ [2 * k + 1])), .box k T0 [z]⟩ :: l) n env ((k, T0, [z]) :: box)) (hop : o.op = .store T x y := by rfl) (ic : OneT P T := by infer_instance) (hb : GOn ops env o g := by first | exact GOn.none rfl | exact GOn.some rfl rfl rfl) (hd : o.dst = none := by rfl) (hx : denOf env x = .ptr k 0 := by rfl)
    (hk : boxOf box k = some (T0, [z0]) := by rfl) (hro : Nat.blt k 1000 = true := by rfl) (he : denOf env y = .rs (.el (.one z)) := by rfl) : Run P ops s0 G (o :: rest) i l n env box :=
  Run.st_ h hop hb hd hx hk hro he ic.n rfl rfl
theorem Run.bld {cs : List Value} {as : List At} {pl : List (Nat × Nat)} {parts : Array (Nat × Operand)} {qs : List (Nat × List At)} {zs : List At} (h : Run P ops s0 G rest (i + 1) (⟨i, g ++ rdParts parts.toList, .slot t (.rs (.el (.agg zs)))⟩ :: l) n ((t, .rs (.el (.agg zs))) :: env) box) (hop : o.op = .build T parts) (ic : ZeroT P T cs as) (ip : PlcT P T pl) (hb : GOn ops env o g) (hd : o.dst = some t)
    (hq : partsOf env parts.toList = some qs) (hz : fillA (fun i => pl[i]?) as qs = some zs) (ht : Nat.blt t n = true) : Run P ops s0 G (o :: rest) i l n env box :=
  Run.cons (rs := g ++ rdParts parts.toList) (step_build (s := ⟨n, env, box⟩) hop hd (blt ht) hb.on (fun _ h => List.mem_append_left _ (hb.rd ▸ h)) (fun _ h => List.mem_append_right _ h) (by unfold buildA; rw [ic.h, ip.h, hq, ← hz, ← ic.y])) h rfl
theorem Run.bld2 {cs : List Value} {as : List At} {pl : List (Nat × Nat)} {parts : Array (Nat × Operand)} {qs : List (Nat × List At)} {z1 z2 : At} (h : Run P ops s0 G rest (i + 1) (⟨i, g ++ rdParts parts.toList, .slot t (.rs (.el (.agg [z1, z2])))⟩ :: l) n ((t, .rs (.el (.agg [z1, z2]))) :: env) box) (hop : o.op = .build T parts := by rfl) (ic : ZeroT P T cs as := by infer_instance) (ip : PlcT P T pl := by infer_instance) (hb : GOn ops env o g := by first | exact GOn.none rfl | exact GOn.some rfl rfl rfl) (hd : o.dst = some t := by rfl)
    (hq : partsOf env parts.toList = some qs := by rfl) (hz : fillA (fun i => pl[i]?) as qs = some [z1, z2] := by rfl) (ht : Nat.blt t n = true := by rfl) : Run P ops s0 G (o :: rest) i l n env box := Run.bld h hop ic ip hb hd hq hz ht
theorem Run.bld3 {cs : List Value} {as : List At} {pl : List (Nat × Nat)} {parts : Array (Nat × Operand)} {qs : List (Nat × List At)} {z1 z2 z3 : At} (h : Run P ops s0 G rest (i + 1) (⟨i, g ++ rdParts parts.toList, .slot t (.rs (.el (.agg [z1, z2, z3])))⟩ :: l) n ((t, .rs (.el (.agg [z1, z2, z3]))) :: env) box) (hop : o.op = .build T parts := by rfl) (ic : ZeroT P T cs as := by infer_instance) (ip : PlcT P T pl := by infer_instance) (hb : GOn ops env o g := by first | exact GOn.none rfl | exact GOn.some rfl rfl rfl) (hd : o.dst = some t := by rfl)
    (hq : partsOf env parts.toList = some qs := by rfl) (hz : fillA (fun i => pl[i]?) as qs = some [z1, z2, z3] := by rfl) (ht : Nat.blt t n = true := by rfl) : Run P ops s0 G (o :: rest) i l n env box := Run.bld h hop ic ip hb hd hq hz ht
theorem Run.len {d : List Int} {eT : Nat} (h : Run P ops s0 G rest (i + 1) (⟨i, g ++ rdOp x, .slot t (.rs (.el (.one (.val (.int .i64 (d.length : Int))))))⟩ :: l) n ((t, .rs (.el (.one (.val (.int .i64 (d.length : Int)))))) :: env) box) (hop : o.op = .call { callee := .builtin .len, args := #[x], argTypes := #[T] } := by rfl) (ic : SlcT P T eT := by infer_instance) (hb : GOn ops env o g := by first | exact GOn.none rfl | exact GOn.some rfl rfl rfl) (hd : o.dst = some t := by rfl) (hx : denOf env x = .rs (.el (.one (.row d))) := by rfl) (ht : Nat.blt t n = true := by rfl) : Run P ops s0 G (o :: rest) i l n env box :=
  Run.cons (rs := g ++ rdOp x) (step_len (s := ⟨n, env, box⟩) hop hd (blt ht) hb.on (fun _ h => List.mem_append_left _ (hb.rd ▸ h)) (fun _ h => List.mem_append_right _ h) hx ic.h) h rfl
theorem Run.call_ {f : FuncId} {as : Array Operand} {ts : Array TypeId} {ds : List El} {r : Rs} (h : Run P ops s0 G rest (i + 1) (⟨i, g ++ rdOps as.toList, .slot t (.rs r)⟩ :: l) n ((t, .rs r) :: env) box) (hop : o.op = .call { callee := .value (.func f), args := as, argTypes := ts }) (hb : GOn ops env o g) (hd : o.dst = some t)
    (hds : elsOf env as.toList = some ds) (hc : Tells P f ds r) (ht : Nat.blt t n = true) : Run P ops s0 G (o :: rest) i l n env box :=
  Run.cons (rs := g ++ rdOps as.toList) (step_call (s := ⟨n, env, box⟩) hop hd (blt ht) hb.on (fun _ h => List.mem_append_left _ (hb.rd ▸ h)) (fun _ h => List.mem_append_right _ h) hds hc) h rfl
theorem Run.call0 {f : FuncId} {ts : Array TypeId} {r : Rs}   (h : Run P ops s0 G rest (i + 1) (⟨i, g ++ rdOps [], .slot t (.rs r)⟩ :: l) n ((t, .rs r) :: env) box) (hop : o.op = .call { callee := .value (.func f), args := #[], argTypes := ts } := by rfl) (hb : GOn ops env o g := by first | exact GOn.none rfl | exact GOn.some rfl rfl rfl) (hd : o.dst = some t := by rfl)  (hc : Tl P f [] r := by infer_instance) (ht : Nat.blt t n = true := by rfl) : Run P ops s0 G (o :: rest) i l n env box := Run.call_ h hop hb hd (by simp [elsOf]) hc.t ht
theorem Run.call1 {f : FuncId} {ts : Array TypeId} {r : Rs} {x1 : Operand} {e1 : El} (h : Run P ops s0 G rest (i + 1) (⟨i, g ++ rdOps [x1], .slot t (.rs r)⟩ :: l) n ((t, .rs r) :: env) box) (hop : o.op = .call { callee := .value (.func f), args := #[x1], argTypes := ts } := by rfl) (hb : GOn ops env o g := by first | exact GOn.none rfl | exact GOn.some rfl rfl rfl) (hd : o.dst = some t := by rfl) (g1 : denOf env x1 = .rs (.el e1) := by rfl) (hc : Tl P f [e1] r := by infer_instance) (ht : Nat.blt t n = true := by rfl) : Run P ops s0 G (o :: rest) i l n env box := Run.call_ h hop hb hd (by simp [elsOf, g1]) hc.t ht
theorem Run.call2 {f : FuncId} {ts : Array TypeId} {r : Rs} {x1 x2 : Operand} {e1 e2 : El} (h : Run P ops s0 G rest (i + 1) (⟨i, g ++ rdOps [x1, x2], .slot t (.rs r)⟩ :: l) n ((t, .rs r) :: env) box) (hop : o.op = .call { callee := .value (.func f), args := #[x1, x2], argTypes := ts } := by rfl) (hb : GOn ops env o g := by first | exact GOn.none rfl | exact GOn.some rfl rfl rfl) (hd : o.dst = some t := by rfl) (g1 : denOf env x1 = .rs (.el e1) := by rfl) (g2 : denOf env x2 = .rs (.el e2) := by rfl) (hc : Tl P f [e1, e2] r := by infer_instance) (ht : Nat.blt t n = true := by rfl) : Run P ops s0 G (o :: rest) i l n env box := Run.call_ h hop hb hd (by simp [elsOf, g1, g2]) hc.t ht
theorem Run.call3 {f : FuncId} {ts : Array TypeId} {r : Rs} {x1 x2 x3 : Operand} {e1 e2 e3 : El} (h : Run P ops s0 G rest (i + 1) (⟨i, g ++ rdOps [x1, x2, x3], .slot t (.rs r)⟩ :: l) n ((t, .rs r) :: env) box) (hop : o.op = .call { callee := .value (.func f), args := #[x1, x2, x3], argTypes := ts } := by rfl) (hb : GOn ops env o g := by first | exact GOn.none rfl | exact GOn.some rfl rfl rfl) (hd : o.dst = some t := by rfl) (g1 : denOf env x1 = .rs (.el e1) := by rfl) (g2 : denOf env x2 = .rs (.el e2) := by rfl) (g3 : denOf env x3 = .rs (.el e3) := by rfl) (hc : Tl P f [e1, e2, e3] r := by infer_instance) (ht : Nat.blt t n = true := by rfl) : Run P ops s0 G (o :: rest) i l n env box := Run.call_ h hop hb hd (by simp [elsOf, g1, g2, g3]) hc.t ht
theorem Run.call4 {f : FuncId} {ts : Array TypeId} {r : Rs} {x1 x2 x3 x4 : Operand} {e1 e2 e3 e4 : El} (h : Run P ops s0 G rest (i + 1) (⟨i, g ++ rdOps [x1, x2, x3, x4], .slot t (.rs r)⟩ :: l) n ((t, .rs r) :: env) box) (hop : o.op = .call { callee := .value (.func f), args := #[x1, x2, x3, x4], argTypes := ts } := by rfl) (hb : GOn ops env o g := by first | exact GOn.none rfl | exact GOn.some rfl rfl rfl) (hd : o.dst = some t := by rfl) (g1 : denOf env x1 = .rs (.el e1) := by rfl) (g2 : denOf env x2 = .rs (.el e2) := by rfl) (g3 : denOf env x3 = .rs (.el e3) := by rfl) (g4 : denOf env x4 = .rs (.el e4) := by rfl) (hc : Tl P f [e1, e2, e3, e4] r := by infer_instance) (ht : Nat.blt t n = true := by rfl) : Run P ops s0 G (o :: rest) i l n env box := Run.call_ h hop hb hd (by simp [elsOf, g1, g2, g3, g4]) hc.t ht
/-! Values -/
def eqVal (op : BinOp) (T : TypeId) (x y : Operand) (u v : Value) : Sem Value := do eqGuard op T x y u v; binOp op T u v
theorem Run.bin_ {op : BinOp} {T2 : TypeId} {u v r : Value} (h : Run P ops s0 G rest (i + 1) (⟨i, g ++ (rdOp x ++ rdOp y), .slot t (.rs (.el (.one (.val r))))⟩ :: l) n ((t, .rs (.el (.one (.val r)))) :: env) box) (hop : o.op = .binOp op T x y T2) (hb : GOn ops env o g) (hd : o.dst = some t)
    (hx : valOf (denOf env x) = some u) (hy : valOf (denOf env y) = some v) (hrun : ∀ w, (eqVal op T x y u v).run P w = .ok r w) (hr : r.oneCell' = true) (ht : Nat.blt t n = true) : Run P ops s0 G (o :: rest) i l n env box :=
  Run.cons (rs := g ++ (rdOp x ++ rdOp y)) (step_val (s := ⟨n, env, box⟩) [x, y] [u, v] hd (blt ht) hb.on (fun _ h => List.mem_append_left _ (hb.rd ▸ h)) (by
    intro z hz L hL
    rcases List.mem_cons.1 hz with rfl | hz
    · exact List.mem_append_right _ (List.mem_append_left _ hL)
    · rw [List.mem_singleton.1 hz] at hL
      exact List.mem_append_right _ (List.mem_append_right _ hL)) (by simp [hx, hy]) hr (fun a w hu => by
    simp only [List.map_cons, List.map_nil, List.cons.injEq, and_true] at hu
    have := hrun w
    unfold eqVal at this
    unfold execOp
    simp only [hop, hu.1, hu.2]
    rw [Sem.run_bind, this]
    rfl)) h rfl
theorem Run.bin {op : BinOp} {T2 : TypeId} {u v r : Value} (h : Run P ops s0 G rest (i + 1) (⟨i, g ++ (rdOp x ++ rdOp y), .slot t (.rs (.el (.one (.val r))))⟩ :: l) n ((t, .rs (.el (.one (.val r)))) :: env) box) (hop : o.op = .binOp op T x y T2 := by rfl) (hb : GOn ops env o g := by first | exact GOn.none rfl | exact GOn.some rfl rfl rfl) (hd : o.dst = some t := by rfl)
    (hx : valOf (denOf env x) = some u := by rfl) (hy : valOf (denOf env y) = some v := by rfl) (hrun : ∀ w, (eqVal op T x y u v).run P w = .ok r w := by (intro w; unfold eqVal; go_simp; with_reducible rfl)) (hr : r.oneCell' = true := by rfl) (ht : Nat.blt t n = true := by rfl) : Run P ops s0 G (o :: rest) i l n env box := Run.bin_ h hop hb hd hx hy hrun hr ht
def cmpV : BinOp → Int → Int → Option Bool
  | .eql, a, b => some (a == b)
  | .neq, a, b => some (a != b)
  | .lss, a, b => some (decide (a < b))
  | .leq, a, b => some (decide (a ≤ b))
  | .gtr, a, b => some (decide (a > b))
  | .geq, a, b => some (decide (a ≥ b))
  | _, _, _ => none
def arV : BinOp → Int → Int → Option Int
  | .add, a, b => some (a + b)
  | .sub, a, b => some (a - b)
  | .mul, a, b => some (a * b)
  | _, _, _ => none
theorem run_eqGuard_val {op : BinOp} {T : TypeId} {x y : Operand} {u v : Value} (hu : ∀ cs, u ≠ .agg cs) (hv : u ≠ .nilIface) (w : World) : (eqGuard op T x y u v).run P w = .ok () w := by
  unfold eqGuard
  cases op <;> cases u <;> first | rfl | exact absurd rfl hv | exact absurd rfl (hu _)
theorem run_val {op : BinOp} {T : TypeId} {x y : Operand} {u v r : Value} (hu : ∀ cs, u ≠ .agg cs) (hv : u ≠ .nilIface) {w : World} (h : (binOp op T u v).run P w = .ok r w) : (eqVal op T x y u v).run P w = .ok r w := by
  unfold eqVal
  rw [Sem.run_bind, run_eqGuard_val hu hv w]
  exact h
theorem run_cmp {op : BinOp} {T : TypeId} {k : IntKind} {a b : Int} {c : Bool} (h : cmpV op a b = some c) (w : World) : (binOp op T (.int k a) (.int k b)).run P w = .ok (.bool c) w := by
  cases op <;> (first | (cases h; done) | (cases h; simp [binOp, Op.intCmp]; done))
theorem run_ar {op : BinOp} {T : TypeId} {k : IntKind} {a b c : Int} (h : arV op a b = some c) (w : World) : (binOp op T (.int k a) (.int k b)).run P w = .ok (.int k (k.wrap c)) w := by
  cases op <;> (first | (cases h; done) | (cases h; simp [binOp, Op.intArith]; done))
theorem Run.icmp {op : BinOp} {T2 : TypeId} {k : IntKind} {a b : Int} {c : Bool} (h : Run P ops s0 G rest (i + 1) (⟨i, g ++ (rdOp x ++ rdOp y), .slot t (.rs (.el (.one (.val (.bool c)))))⟩ :: l) n ((t, .rs (.el (.one (.val (.bool c))))) :: env) box) (hop : o.op = .binOp op T x y T2 := by rfl) (hb : GOn ops env o g := by first | exact GOn.none rfl | exact GOn.some rfl rfl rfl) (hd : o.dst = some t := by rfl)
    (hx : valOf (denOf env x) = some (.int k a) := by rfl) (hy : valOf (denOf env y) = some (.int k b) := by rfl) (hc : cmpV op a b = some c := by rfl) (ht : Nat.blt t n = true := by rfl) : Run P ops s0 G (o :: rest) i l n env box := Run.bin_ h hop hb hd hx hy (fun w => by exact run_val (fun _ h => by cases h) (fun h => by cases h) (run_cmp hc w)) rfl ht
theorem Run.iar64 {op : BinOp} {T2 : TypeId} {a b c : Int} (h : Run P ops s0 G rest (i + 1) (⟨i, g ++ (rdOp x ++ rdOp y), .slot t (.rs (.el (.one (.val (.int .i64 (wrap64 c))))))⟩ :: l) n ((t, .rs (.el (.one (.val (.int .i64 (wrap64 c)))))) :: env) box) (hop : o.op = .binOp op T x y T2 := by rfl) (hb : GOn ops env o g := by first | exact GOn.none rfl | exact GOn.some rfl rfl rfl) (hd : o.dst = some t := by rfl)
    (hx : valOf (denOf env x) = some (.int .i64 a) := by rfl) (hy : valOf (denOf env y) = some (.int .i64 b) := by rfl) (hc : arV op a b = some c := by rfl) (ht : Nat.blt t n = true := by rfl) : Run P ops s0 G (o :: rest) i l n env box := Run.bin_ h hop hb hd hx hy (fun w => by rw [← Go.Proofs.YtcdkopidgibijaaW.PrintLast.i64_w]; exact run_val (fun _ h => by cases h) (fun h => by cases h) (run_ar hc w)) rfl ht
theorem Run.sub0 {T2 : TypeId} {b : Int} (h : Run P ops s0 G rest (i + 1) (⟨i, g ++ (rdOp x ++ rdOp y), .slot t (.rs (.el (.one (.val (.int .i64 (wrap64 (-b)))))))⟩ :: l) n ((t, .rs (.el (.one (.val (.int .i64 (wrap64 (-b))))))) :: env) box) (hop : o.op = .binOp .sub T x y T2 := by rfl) (hb : GOn ops env o g := by first | exact GOn.none rfl | exact GOn.some rfl rfl rfl) (hd : o.dst = some t := by rfl)
    (hx : valOf (denOf env x) = some (.int .i64 0) := by rfl) (hy : valOf (denOf env y) = some (.int .i64 b) := by rfl) (ht : Nat.blt t n = true := by rfl) : Run P ops s0 G (o :: rest) i l n env box := Run.bin_ h hop hb hd hx hy (fun w => by rw [← Go.Proofs.YtcdkopidgibijaaW.PrintLast.i64_w, ← Int.zero_sub]; exact run_val (fun _ h => by cases h) (fun h => by cases h) (run_ar rfl w)) rfl ht
theorem Run.iark {op : BinOp} {T2 : TypeId} {k : IntKind} {a b c : Int} (h : Run P ops s0 G rest (i + 1) (⟨i, g ++ (rdOp x ++ rdOp y), .slot t (.rs (.el (.one (.val (.int k (k.wrap c))))))⟩ :: l) n ((t, .rs (.el (.one (.val (.int k (k.wrap c)))))) :: env) box) (hop : o.op = .binOp op T x y T2 := by rfl) (hb : GOn ops env o g := by first | exact GOn.none rfl | exact GOn.some rfl rfl rfl) (hd : o.dst = some t := by rfl)
    (hx : valOf (denOf env x) = some (.int k a) := by rfl) (hy : valOf (denOf env y) = some (.int k b) := by rfl) (hc : arV op a b = some c := by rfl) (ht : Nat.blt t n = true := by rfl) : Run P ops s0 G (o :: rest) i l n env box := Run.bin_ h hop hb hd hx hy (fun w => by exact run_val (fun _ h => by cases h) (fun h => by cases h) (run_ar hc w)) rfl ht
theorem Run.cat {T2 : TypeId} {a b : ByteArray} (h : Run P ops s0 G rest (i + 1) (⟨i, g ++ (rdOp x ++ rdOp y), .slot t (.rs (.el (.one (.val (.string (a ++ b))))))⟩ :: l) n ((t, .rs (.el (.one (.val (.string (a ++ b)))))) :: env) box) (hop : o.op = .binOp .add T x y T2 := by rfl) (hb : GOn ops env o g := by first | exact GOn.none rfl | exact GOn.some rfl rfl rfl) (hd : o.dst = some t := by rfl)
    (hx : valOf (denOf env x) = some (.string a) := by rfl) (hy : valOf (denOf env y) = some (.string b) := by rfl) (hl : a.size + b.size ≤ 9223372036854775807 := by first | assumption | (simp; omega)) (ht : Nat.blt t n = true := by rfl) : Run P ops s0 G (o :: rest) i l n env box := Run.bin_ h hop hb hd hx hy (fun w => by exact run_val (fun _ h => by cases h) (fun h => by cases h) (by simp [binOp, Op.stringOp, IntKind.max, IntKind.bits, IntKind.signed]; omega)) rfl ht
def bcV : BinOp → Bool → Bool → Option Bool
  | .eql, a, b => some (a == b)
  | .neq, a, b => some (a != b)
  | _, _, _ => none
theorem run_eqB (d : Nat) {T : TypeId} {a b : Bool} (hT : P.underlying T = some .bool) (w : World) : (Op.equalIn (d + 1) T (.bool a) (.bool b)).run P w = .ok (a == b) w := by
  rw [Op.equalIn, Sem.run_bind, run_underlying hT w]
  rfl
theorem run_bc {op : BinOp} {T : TypeId} {a b c : Bool} (hT : P.underlying T = some .bool) (h : bcV op a b = some c) (w : World) : (binOp op T (.bool a) (.bool b)).run P w = .ok (.bool c) w := by
  have hq : (Op.equal T (.bool a) (.bool b)).run P w = .ok (a == b) w := run_eqB 9999 hT w
  cases op <;> first | (cases h; done) | skip
  · cases h
    show (do pure (.bool (← Op.equal T (.bool a) (.bool b))) : Sem Value).run P w = _
    rw [Sem.run_bind, hq]
    rfl
  · cases h
    show (do pure (.bool (!(← Op.equal T (.bool a) (.bool b)))) : Sem Value).run P w = _
    rw [Sem.run_bind, hq]
    rfl
theorem Run.bcmp {op : BinOp} {T2 : TypeId} {a b c : Bool} (h : Run P ops s0 G rest (i + 1) (⟨i, g ++ (rdOp x ++ rdOp y), .slot t (.rs (.el (.one (.val (.bool c)))))⟩ :: l) n ((t, .rs (.el (.one (.val (.bool c))))) :: env) box) (hop : o.op = .binOp op T x y T2 := by rfl) (hb : GOn ops env o g := by first | exact GOn.none rfl | exact GOn.some rfl rfl rfl) (hd : o.dst = some t := by rfl)
    (hx : valOf (denOf env x) = some (.bool a) := by rfl) (hy : valOf (denOf env y) = some (.bool b) := by rfl) (hc : bcV op a b = some c := by rfl) (ic : BolT P T := by infer_instance) (ht : Nat.blt t n = true := by rfl) : Run P ops s0 G (o :: rest) i l n env box := Run.bin_ h hop hb hd hx hy (fun w => run_val (fun _ h => by cases h) (fun h => by cases h) (run_bc ic.h hc w)) rfl ht
theorem Run.un {op : UnOp} {u r : Value} (h : Run P ops s0 G rest (i + 1) (⟨i, g ++ rdOp x, .slot t (.rs (.el (.one (.val r))))⟩ :: l) n ((t, .rs (.el (.one (.val r)))) :: env) box) (hop : o.op = .unOp op T x := by rfl) (hb : GOn ops env o g := by first | exact GOn.none rfl | exact GOn.some rfl rfl rfl) (hd : o.dst = some t := by rfl)
    (hx : valOf (denOf env x) = some u := by rfl) (hrun : ∀ w, (Op.unary op u).run P w = .ok r w := by (intro w; go_simp; with_reducible rfl)) (hr : r.oneCell' = true := by rfl) (ht : Nat.blt t n = true := by rfl) : Run P ops s0 G (o :: rest) i l n env box :=
  Run.cons (rs := g ++ rdOp x) (step_val (s := ⟨n, env, box⟩) [x] [u] hd (blt ht) hb.on (fun _ h => List.mem_append_left _ (hb.rd ▸ h)) (fun z hz L hL => List.mem_append_right _ (by rwa [List.mem_singleton.1 hz] at hL)) (by simp [hx]) hr (fun a w hu => by
    simp only [List.map_cons, List.map_nil, List.cons.injEq, and_true] at hu
    unfold execOp
    simp only [hop, hu]
    rw [Sem.run_bind, hrun w]
    rfl)) h rfl
theorem Run.slc {u v r : Value} (h : Run P ops s0 G rest (i + 1) (⟨i, g ++ (rdOp x ++ rdOp y), .slot t (.rs (.el (.one (.val r))))⟩ :: l) n ((t, .rs (.el (.one (.val r)))) :: env) box) (hop : o.op = .slice T x (some y) none none := by rfl) (hb : GOn ops env o g := by first | exact GOn.none rfl | exact GOn.some rfl rfl rfl) (hd : o.dst = some t := by rfl)
    (hx : valOf (denOf env x) = some u := by rfl) (hy : valOf (denOf env y) = some v := by rfl) (hrun : ∀ w, (Instr.sliceAt T u (some v) none none).run P w = .ok r w := by (intro w; go_simp; with_reducible rfl)) (hr : r.oneCell' = true := by rfl) (ht : Nat.blt t n = true := by rfl) : Run P ops s0 G (o :: rest) i l n env box :=
  Run.cons (rs := g ++ (rdOp x ++ rdOp y)) (step_val (s := ⟨n, env, box⟩) [x, y] [u, v] hd (blt ht) hb.on (fun _ h => List.mem_append_left _ (hb.rd ▸ h)) (by
    intro z hz L hL
    rcases List.mem_cons.1 hz with rfl | hz
    · exact List.mem_append_right _ (List.mem_append_left _ hL)
    · rw [List.mem_singleton.1 hz] at hL
      exact List.mem_append_right _ (List.mem_append_right _ hL)) (by simp [hx, hy]) hr (fun a w hu => by
    simp only [List.map_cons, List.map_nil, List.cons.injEq, and_true] at hu
    unfold execOp
    simp only [hop, hu.1, hu.2, Option.map_some, Option.map_none]
    rw [Sem.run_bind, hrun w]
    rfl)) h rfl
theorem Run.not {b : Bool} (h : Run P ops s0 G rest (i + 1) (⟨i, g ++ rdOp x, .slot t (.rs (.el (.one (.val (.bool (!b))))))⟩ :: l) n ((t, .rs (.el (.one (.val (.bool (!b)))))) :: env) box) (hop : o.op = .unOp .not T x := by rfl) (hb : GOn ops env o g := by first | exact GOn.none rfl | exact GOn.some rfl rfl rfl) (hd : o.dst = some t := by rfl)
    (hx : valOf (denOf env x) = some (.bool b) := by rfl) (ht : Nat.blt t n = true := by rfl) : Run P ops s0 G (o :: rest) i l n env box := Run.un h hop hb hd hx (fun w => by simp [Op.unary]) rfl ht
theorem Run.neg64 {a : Int} (h : Run P ops s0 G rest (i + 1) (⟨i, g ++ rdOp x, .slot t (.rs (.el (.one (.val (.int .i64 (wrap64 (-a)))))))⟩ :: l) n ((t, .rs (.el (.one (.val (.int .i64 (wrap64 (-a))))))) :: env) box) (hop : o.op = .unOp .neg T x := by rfl) (hb : GOn ops env o g := by first | exact GOn.none rfl | exact GOn.some rfl rfl rfl) (hd : o.dst = some t := by rfl)
    (hx : valOf (denOf env x) = some (.int .i64 a) := by rfl) (ht : Nat.blt t n = true := by rfl) : Run P ops s0 G (o :: rest) i l n env box := Run.un h hop hb hd hx (fun w => by rw [← Go.Proofs.YtcdkopidgibijaaW.PrintLast.i64_w]; simp [Op.unary, Op.intArith]) rfl ht
theorem Run.cnv_ {T2 : TypeId} {u r : Value} (h : Run P ops s0 G rest (i + 1) (⟨i, g ++ rdOp x, .slot t (.rs (.el (.one (.val r))))⟩ :: l) n ((t, .rs (.el (.one (.val r)))) :: env) box) (hop : o.op = .convert T T2 x) (hb : GOn ops env o g) (hd : o.dst = some t)
    (hx : valOf (denOf env x) = some u) (hrun : ∀ w, (convert T T2 u).run P w = .ok r w) (hr : r.oneCell' = true) (ht : Nat.blt t n = true) : Run P ops s0 G (o :: rest) i l n env box :=
  Run.cons (rs := g ++ rdOp x) (step_val (s := ⟨n, env, box⟩) [x] [u] hd (blt ht) hb.on (fun _ h => List.mem_append_left _ (hb.rd ▸ h)) (fun z hz L hL => List.mem_append_right _ (by rwa [List.mem_singleton.1 hz] at hL)) (by simp [hx]) hr (fun a w hu => by
    simp only [List.map_cons, List.map_nil, List.cons.injEq, and_true] at hu
    unfold execOp
    simp only [hop, hu]
    rw [Sem.run_bind, hrun w]
    rfl)) h rfl
theorem Run.cnv64 {T2 : TypeId} {k0 k1 : IntKind} {a : Int} (h : Run P ops s0 G rest (i + 1) (⟨i, g ++ rdOp x, .slot t (.rs (.el (.one (.val (.int .i64 (wrap64 a))))))⟩ :: l) n ((t, .rs (.el (.one (.val (.int .i64 (wrap64 a)))))) :: env) box) (hop : o.op = .convert T T2 x := by rfl) (hb : GOn ops env o g := by first | exact GOn.none rfl | exact GOn.some rfl rfl rfl) (hd : o.dst = some t := by rfl)
    (hx : valOf (denOf env x) = some (.int k0 a) := by rfl) (i1 : IntT P T k1 := by infer_instance) (i2 : IntT P T2 .i64 := by infer_instance) (ht : Nat.blt t n = true := by rfl) : Run P ops s0 G (o :: rest) i l n env box := Run.cnv_ h hop hb hd hx (fun w => by
      rw [← Go.Proofs.YtcdkopidgibijaaW.PrintLast.i64_w]; unfold convert
      rw [Sem.run_bind, run_underlying i1.h w]
      show Sem.run P (do let d ← underlying T2; _) w = _
      rw [Sem.run_bind, run_underlying i2.h w]
      rfl) rfl ht
theorem Run.cnvk {T2 : TypeId} {k0 k1 k2 : IntKind} {a : Int} (h : Run P ops s0 G rest (i + 1) (⟨i, g ++ rdOp x, .slot t (.rs (.el (.one (.val (.int k2 (k2.wrap a))))))⟩ :: l) n ((t, .rs (.el (.one (.val (.int k2 (k2.wrap a)))))) :: env) box) (hop : o.op = .convert T T2 x := by rfl) (hb : GOn ops env o g := by first | exact GOn.none rfl | exact GOn.some rfl rfl rfl) (hd : o.dst = some t := by rfl)
    (hx : valOf (denOf env x) = some (.int k0 a) := by rfl) (i1 : IntT P T k1 := by infer_instance) (i2 : IntT P T2 k2 := by infer_instance) (ht : Nat.blt t n = true := by rfl) : Run P ops s0 G (o :: rest) i l n env box := Run.cnv_ h hop hb hd hx (fun w => by
      unfold convert
      rw [Sem.run_bind, run_underlying i1.h w]
      show Sem.run P (do let d ← underlying T2; _) w = _
      rw [Sem.run_bind, run_underlying i2.h w]
      rfl) rfl ht
theorem Run.cnv {T2 : TypeId} {u r : Value} (h : Run P ops s0 G rest (i + 1) (⟨i, g ++ rdOp x, .slot t (.rs (.el (.one (.val r))))⟩ :: l) n ((t, .rs (.el (.one (.val r)))) :: env) box) (hop : o.op = .convert T T2 x := by rfl) (hb : GOn ops env o g := by first | exact GOn.none rfl | exact GOn.some rfl rfl rfl) (hd : o.dst = some t := by rfl)
    (hx : valOf (denOf env x) = some u := by rfl) (hrun : ∀ w, (convert T T2 u).run P w = .ok r w := by (intro w; go_simp; with_reducible rfl)) (hr : r.oneCell' = true := by rfl) (ht : Nat.blt t n = true := by rfl) : Run P ops s0 G (o :: rest) i l n env box :=
  Run.cons (rs := g ++ rdOp x) (step_val (s := ⟨n, env, box⟩) [x] [u] hd (blt ht) hb.on (fun _ h => List.mem_append_left _ (hb.rd ▸ h)) (fun z hz L hL => List.mem_append_right _ (by rwa [List.mem_singleton.1 hz] at hL)) (by simp [hx]) hr (fun a w hu => by
    simp only [List.map_cons, List.map_nil, List.cons.injEq, and_true] at hu
    unfold execOp
    simp only [hop, hu]
    rw [Sem.run_bind, hrun w]
    rfl)) h rfl
theorem Run.bi2 {b : Builtin} {ts : Array TypeId} {u v r : Value} (h : Run P ops s0 G rest (i + 1) (⟨i, g ++ (rdOp x ++ rdOp y), .slot t (.rs (.el (.one (.val r))))⟩ :: l) n ((t, .rs (.el (.one (.val r)))) :: env) box) (hop : o.op = .call { callee := .builtin b, args := #[x, y], argTypes := ts } := by rfl) (hb : GOn ops env o g := by first | exact GOn.none rfl | exact GOn.some rfl rfl rfl) (hd : o.dst = some t := by rfl)
    (hx : valOf (denOf env x) = some u := by rfl) (hy : valOf (denOf env y) = some v := by rfl) (hrun : ∀ w, (builtin b ts o.type (#[x, y].map fun | .const _ => true | _ => false) #[u, v]).run P w = .ok (.value r) w := by (intro w; go_simp; with_reducible rfl)) (hr : r.oneCell' = true := by rfl) (ht : Nat.blt t n = true := by rfl) : Run P ops s0 G (o :: rest) i l n env box :=
  Run.cons (rs := g ++ (rdOp x ++ rdOp y)) (step_val (s := ⟨n, env, box⟩) [x, y] [u, v] hd (blt ht) hb.on (fun _ h => List.mem_append_left _ (hb.rd ▸ h)) (by
    intro z hz L hL
    rcases List.mem_cons.1 hz with rfl | hz
    · exact List.mem_append_right _ (List.mem_append_left _ hL)
    · rw [List.mem_singleton.1 hz] at hL
      exact List.mem_append_right _ (List.mem_append_right _ hL)) (by simp [hx, hy]) hr (fun a w hu => by
    simp only [List.map_cons, List.map_nil, List.cons.injEq, and_true] at hu
    have h1 := hrun w
    unfold execOp
    simp only [hop, resolve, invoke, Sem.run_bind, Sem.run_pure, Result.andThen_ok]
    rw [← h1]
    congr 2
    simp [hu.1, hu.2])) h rfl
theorem Run.mn {a b : Int} {ts : Array TypeId} (h : Run P ops s0 G rest (i + 1) (⟨i, g ++ (rdOp x ++ rdOp y), .slot t (.rs (.el (.one (.val (.int .i64 (mn a b))))))⟩ :: l) n ((t, .rs (.el (.one (.val (.int .i64 (mn a b)))))) :: env) box) (hop : o.op = .call { callee := .builtin .min, args := #[x, y], argTypes := ts } := by rfl) (hb : GOn ops env o g := by first | exact GOn.none rfl | exact GOn.some rfl rfl rfl) (hd : o.dst = some t := by rfl)
    (hx : valOf (denOf env x) = some (.int .i64 a) := by rfl) (hy : valOf (denOf env y) = some (.int .i64 b) := by rfl) (ht : Nat.blt t n = true := by rfl) : Run P ops s0 G (o :: rest) i l n env box :=
  Run.bi2 h hop hb hd hx hy (fun w => by
    have h1 := Go.Proofs.YtcdkopidgibijaaW.PrintMore.min2_int .i64 .i64 a b
    simp only [builtin]; rw [Go.Proofs.YtcdkopidgibijaaW.PrintMore.min_two, h1]; simp; rfl) rfl ht
theorem Run.mx {a b : Int} {ts : Array TypeId} (h : Run P ops s0 G rest (i + 1) (⟨i, g ++ (rdOp x ++ rdOp y), .slot t (.rs (.el (.one (.val (.int .i64 (mx a b))))))⟩ :: l) n ((t, .rs (.el (.one (.val (.int .i64 (mx a b)))))) :: env) box) (hop : o.op = .call { callee := .builtin .max, args := #[x, y], argTypes := ts } := by rfl) (hb : GOn ops env o g := by first | exact GOn.none rfl | exact GOn.some rfl rfl rfl) (hd : o.dst = some t := by rfl)
    (hx : valOf (denOf env x) = some (.int .i64 a) := by rfl) (hy : valOf (denOf env y) = some (.int .i64 b) := by rfl) (ht : Nat.blt t n = true := by rfl) : Run P ops s0 G (o :: rest) i l n env box :=
  Run.bi2 h hop hb hd hx hy (fun w => by
    have h1 := Go.Proofs.YtcdkopidgibijaaW.PrintMore.max2_int .i64 .i64 a b
    simp only [builtin]; rw [Go.Proofs.YtcdkopidgibijaaW.PrintMore.max_two, h1]; simp; rfl) rfl ht
theorem Run.fdv {f d : Nat} {z : At} (h : Run P ops s0 G rest (i + 1) (⟨i, g ++ rdOp x, .slot t (.rs (.el (.one z)))⟩ :: l) n ((t, .rs (.el (.one z))) :: env) box) (hop : o.op = .field T x f := by rfl) (ic : FlvT P T f d := by infer_instance) (hb : GOn ops env o g := by first | exact GOn.none rfl | exact GOn.some rfl rfl rfl) (hd : o.dst = some t := by rfl) (hx : denOf env x = .rs (.el (.agg xs)) := by rfl) (hz : xs[d]? = some z := by rfl) (ht : Nat.blt t n = true := by rfl) : Run P ops s0 G (o :: rest) i l n env box :=
  Run.cons (rs := g ++ rdOp x) (step_yields (s := ⟨n, env, box⟩) hd (blt ht) hb.on (fun _ h => List.mem_append_left _ (hb.rd ▸ h)) fun out w0 s' ρ a w hg hr => by
    have h1 := eval_sees hg hr x (fun _ h => List.mem_append_right _ h)
    rw [show denOf (⟨n, env, box⟩ : St).env x = _ from hx] at h1
    obtain ⟨cs, h2, h3⟩ := h1
    obtain ⟨u, hu⟩ : ∃ u, cs[d]? = some u := ⟨_, List.getElem?_eq_getElem (by have := (List.getElem?_eq_some_iff.1 hz).1; have := h3.len; omega)⟩
    refine ⟨u, ?_, h3.at_ d u z hu hz, fun _ h => by cases h⟩
    have hf := ic.h
    unfold fieldOneT at hf
    split at hf
    · rename_i fs hfs
      split at hf
      · rename_i fl hfl
        cases hone : isOneT P fl.type with
        | false => rw [hone] at hf; cases hf
        | true =>
          rw [hone] at hf
          cases hf
          unfold execOp
          simp [hop, h2, Instr.field, run_underlying hfs, hfl, part, asAgg, isAgg_one fl.type hone w, hu]
      · cases hf
    · cases hf) h rfl
theorem step_pick {s : St} {rs : List Nat} {c x1 x2 : Operand} {b : Bool} {r : Rs} (hop : o.op = .pick c x1 x2) (hd : o.dst = some t) (ht : t < s.n) (hb : guardIs ops s.env o = some true) (hs : ∀ L ∈ rdGuard ops o, L ∈ rs) (hc : ∀ L ∈ rdOp c, L ∈ rs) (h1 : ∀ L ∈ rdOp x1, L ∈ rs) (h2 : ∀ L ∈ rdOp x2, L ∈ rs)
    (hden : denOf s.env c = .rs (.el (.one (.val (.bool b))))) (hr : denOf s.env (if b then x1 else x2) = .rs r) : StepOk P ops s o rs (.slot t (.rs r)) :=
  step_yields hd ht hb hs fun out w0 s' ρ a w hg hrel => by
    have h3 := eval_sees hg hrel c hc
    rw [hden] at h3
    have h4 : a.eval c = .bool b := h3.1
    refine ⟨a.eval (if b then x1 else x2), ?_, ?_, fun _ h => by cases h⟩
    · unfold execOp
      cases b <;> simp [hop, h4, asBool]
    · rw [← hr]
      cases b
      · exact eval_sees hg hrel x2 h2
      · exact eval_sees hg hrel x1 h1
theorem Run.pckT {c : Operand} {b : Bool} {r : Rs} (h : Run P ops s0 G rest (i + 1) (⟨i, g ++ (rdOp c ++ (rdOp x ++ rdOp y)), .slot t (.rs r)⟩ :: l) n ((t, .rs r) :: env) box) (hop : o.op = .pick c x y := by rfl) (hb : GOn ops env o g := by first | exact GOn.none rfl | exact GOn.some rfl rfl rfl) (hd : o.dst = some t := by rfl)
    (hx : denOf env c = .rs (.el (.one (.val (.bool b)))) := by rfl) (hbb : b = true := by exact sol_) (hy : denOf env x = .rs r := by rfl) (ht : Nat.blt t n = true := by rfl) : Run P ops s0 G (o :: rest) i l n env box :=
  Run.cons (rs := g ++ (rdOp c ++ (rdOp x ++ rdOp y))) (step_pick (s := ⟨n, env, box⟩) hop hd (blt ht) hb.on (fun _ h => List.mem_append_left _ (hb.rd ▸ h)) (fun _ h => List.mem_append_right _ (List.mem_append_left _ h)) (fun _ h => List.mem_append_right _ (List.mem_append_right _ (List.mem_append_left _ h))) (fun _ h => List.mem_append_right _ (List.mem_append_right _ (List.mem_append_right _ h))) hx (by rw [hbb]; exact hy)) h rfl
theorem Run.pckF {c : Operand} {b : Bool} {r : Rs} (h : Run P ops s0 G rest (i + 1) (⟨i, g ++ (rdOp c ++ (rdOp x ++ rdOp y)), .slot t (.rs r)⟩ :: l) n ((t, .rs r) :: env) box) (hop : o.op = .pick c x y := by rfl) (hb : GOn ops env o g := by first | exact GOn.none rfl | exact GOn.some rfl rfl rfl) (hd : o.dst = some t := by rfl)
    (hx : denOf env c = .rs (.el (.one (.val (.bool b)))) := by rfl) (hbb : b = false := by exact sol_) (hy : denOf env y = .rs r := by rfl) (ht : Nat.blt t n = true := by rfl) : Run P ops s0 G (o :: rest) i l n env box :=
  Run.cons (rs := g ++ (rdOp c ++ (rdOp x ++ rdOp y))) (step_pick (s := ⟨n, env, box⟩) hop hd (blt ht) hb.on (fun _ h => List.mem_append_left _ (hb.rd ▸ h)) (fun _ h => List.mem_append_right _ (List.mem_append_left _ h)) (fun _ h => List.mem_append_right _ (List.mem_append_right _ (List.mem_append_left _ h))) (fun _ h => List.mem_append_right _ (List.mem_append_right _ (List.mem_append_right _ h))) hx (by rw [hbb]; exact hy)) h rfl
end

/-! ### Code -/
section
variable {P : Program}
def AWp (P : Program) (c : Code) (s : St) (K : Exit → St → Prop) : Prop := ∀ (out : Nat → Prop) (w0 : Base) (a : Act) (w : World), Rel out w0 s a w → c.wp P (fun e a' w' => ∃ s', K e s' ∧ Rel out w0 s' a' w') a w
def thenK (P : Program) (y : Code) (K : Exit → St → Prop) : Exit → St → Prop
  | .normal, s => AWp P y s K
  | e, s => K e s
def blockK (id : Nat) (K : Exit → St → Prop) : Exit → St → Prop
  | .exit i, s => if i = id then K .normal s else K (.exit i) s
  | e, s => K e s
variable {s : St} {K : Exit → St → Prop} {x y : Code}
theorem AWp.seq (h : AWp P x s (thenK P y K)) : AWp P (.seq x y) s K := fun out w0 a w hr => wp_seq (wp_mono (h out w0 a w hr) (fun e a' w' => by
  rintro ⟨s', h1, h2⟩
  cases e with
  | normal => exact h1 out w0 a' w' h2
  | exit i => exact ⟨s', h1, h2⟩
  | goto i => exact ⟨s', h1, h2⟩
  | ret => exact ⟨s', h1, h2⟩
  | panic i => exact ⟨s', h1, h2⟩
  | outgrown => exact ⟨s', h1, h2⟩))
theorem AWp.skip (h : K .normal s) : AWp P .skip s K := fun _ _ _ _ hr => wp_skip ⟨s, h, hr⟩
theorem AWp.ret (h : K .ret s) : AWp P .ret s K := fun _ _ _ _ hr => wp_ret ⟨s, h, hr⟩
theorem AWp.exit {i : Nat} (h : K (.exit i) s) : AWp P (.exit i) s K := fun _ _ _ _ hr => wp_exit ⟨s, h, hr⟩
theorem AWp.block {id : Nat} (h : AWp P x s (blockK id K)) : AWp P (.block id x) s K := fun out w0 a w hr => wp_block (wp_mono (h out w0 a w hr) (fun e a' w' => by
  rintro ⟨s', h1, h2⟩
  cases e with
  | normal => exact ⟨s', h1, h2⟩
  | exit i =>
    show if i = id then _ else _
    by_cases e : i = id
    · rw [if_pos e]
      exact ⟨s', by have h3 : (if i = id then K .normal s' else K (.exit i) s') := h1; rwa [if_pos e] at h3, h2⟩
    · rw [if_neg e]
      exact ⟨s', by have h3 : (if i = id then K .normal s' else K (.exit i) s') := h1; rwa [if_neg e] at h3, h2⟩
  | goto i => exact ⟨s', h1, h2⟩
  | ret => exact ⟨s', h1, h2⟩
  | panic i => exact ⟨s', h1, h2⟩
  | outgrown => exact ⟨s', h1, h2⟩))
theorem Rel.eval {out : Nat → Prop} {w0 : Base} {a : Act} {w : World} {c : Operand} {v : Value} (hr : Rel out w0 s a w) (hc : valOf (denOf s.env c) = some v) : a.eval c = v := by
  obtain ⟨ρ, hr⟩ := hr
  exact valOf_eq (eval_sees (rs := rdOp c) ⟨rfl, fun _ _ => rfl, fun _ _ => rfl⟩ hr c (fun _ h => h)) hc
theorem AWp.condT_ {c : Operand} (h : AWp P x s K) (hc : valOf (denOf s.env c) = some (.bool true)) : AWp P (.cond c x y) s K := fun out w0 a w hr => wp_cond_true (hr.eval hc) (h out w0 a w hr)
theorem AWp.condF_ {c : Operand} (h : AWp P y s K) (hc : valOf (denOf s.env c) = some (.bool false)) : AWp P (.cond c x y) s K := fun out w0 a w hr => wp_cond_false (hr.eval hc) (h out w0 a w hr)
theorem AWp.cond {c : Operand} {b : Bool} (hT : b = true → AWp P x s K) (hF : b = false → AWp P y s K) (hc : valOf (denOf s.env c) = some (.bool b) := by rfl) : AWp P (.cond c x y) s K := by
  cases b
  · exact AWp.condF_ (hF rfl) hc
  · exact AWp.condT_ (hT rfl) hc
theorem AWp.condT {c : Operand} {b : Bool} (h : AWp P x s K) (hc : valOf (denOf s.env c) = some (.bool b) := by rfl) (hb : b = true := by exact sol_) : AWp P (.cond c x y) s K := AWp.condT_ h (by rw [hc, hb])
theorem AWp.condF {c : Operand} {b : Bool} (h : AWp P y s K) (hc : valOf (denOf s.env c) = some (.bool b) := by rfl) (hb : b = false := by exact sol_) : AWp P (.cond c x y) s K := AWp.condF_ h (by rw [hc, hb])
theorem AWp.mono {K' : Exit → St → Prop} (h : AWp P x s K) (hk : ∀ e s, K e s → K' e s) : AWp P x s K' := fun out w0 a w hr => wp_mono (h out w0 a w hr) (fun e _ _ ⟨s', h1, h2⟩ => ⟨s', hk e s' h1, h2⟩)
/-! Regions -/
def GF (K : Exit → St → Prop) (s : St) (_ : List Tr) : Prop := K .normal s
def GT (ops : Array Oper) (K : Exit → St → Prop) (s : St) (l : List Tr) : Prop := okB .any ops l = true ∧ K .normal s
theorem plain_aux {ops : Array Oper} {s0 : St} {out : Nat → Prop} {w0 : Base} {Q : Exit → Act → World → Prop} : ∀ {l : List Tr}, Chain P ops s0 l → (∀ a w, Rel out w0 (appAll s0 l) a w → wpOps P ops Q (List.range' l.length (ops.size - l.length)) a w) → ∀ a w, Rel out w0 s0 a w → wpOps P ops Q (List.range ops.size) a w
  | _, .nil, h, a, w, hr => by
    have := h a w hr
    rwa [List.range_eq_range']
  | _, .cons (r := r) (o := o) (rs := rs) (x := x) hc ho hs, h, a, w, hr => plain_aux hc (fun a' w' hr' => by
      have hlt : r.length < ops.size := (Array.getElem?_eq_some_iff.1 ho).1
      have he : ops.size - r.length = (ops.size - (r.length + 1)) + 1 := by omega
      rw [he, List.range'_succ, wpOps_cons]
      refine wpOp_step ho (fun K' hK' => ?_)
      exact hs out w0 _ a' w' ⟨rfl, fun _ _ => rfl, fun _ _ => rfl⟩ hr' K' Q (fun a2 w2 h2 => hK' a2 w2 (h a2 w2 h2))) a w hr
theorem AWp.regF {id n : Nat} {env : List (Nat × Den)} {box : List (Nat × TypeId × List At)} {L : List Oper} (h : Run P L.toArray ⟨n, env, box⟩ (GF K) L 0 [] n env box) : AWp P (.region id L.toArray false) ⟨n, env, box⟩ K := fun out w0 a w hr => by
  obtain ⟨l, h1, h2, h3⟩ := h .nil rfl rfl rfl
  refine wp_region (plain_aux h1 (fun a' w' hr' => ?_) a w hr)
  rw [h2, Nat.sub_self]
  exact ⟨_, h3, hr'⟩
theorem AWp.regT {id n : Nat} {env : List (Nat × Den)} {box : List (Nat × TypeId × List At)} {L : List Oper} (h : Run P L.toArray ⟨n, env, box⟩ (GT L.toArray K) L 0 [] n env box) (hm : P.follows .mixedOrders = true := by exact Mixed.h) : AWp P (.region id L.toArray true) ⟨n, env, box⟩ K := fun out w0 a w hr => by
  obtain ⟨l, h1, h2, h3, h4⟩ := h .nil rfl rfl rfl
  exact region_any hm h1 h2 h3 hr (fun a' w' hr' => ⟨_, h4, hr'⟩)
section
variable {ops : Array Oper} {s0 : St} {l : List Tr} {n i : Nat} {env : List (Nat × Den)} {box : List (Nat × TypeId × List At)}
theorem Run.endF (h : K .normal ⟨n, env, box⟩) : Run P ops s0 (GF K) [] i l n env box := Run.nil h
theorem Run.endT (h : K .normal ⟨n, env, box⟩) (hok : okB .any ops l = true := by kernel_rfl) : Run P ops s0 (GT ops K) [] i l n env box := Run.nil ⟨hok, h⟩
end
attribute [irreducible] AWp thenK blockK
theorem K.thenN (h : AWp P y s K) : thenK P y K .normal s := by unfold thenK; exact h
theorem K.thenR (h : K .ret s) : thenK P y K .ret s := by unfold thenK; exact h
theorem K.thenX {i : Nat} (h : K (.exit i) s) : thenK P y K (.exit i) s := by unfold thenK; exact h
theorem K.blkN {id : Nat} (h : K .normal s) : blockK id K .normal s := by unfold blockK; exact h
theorem K.blkR {id : Nat} (h : K .ret s) : blockK id K .ret s := by unfold blockK; exact h
theorem K.blkX {id : Nat} (h : K .normal s) : blockK id K (.exit id) s := by unfold blockK; show (if id = id then K .normal s else K (.exit id) s); rw [if_pos rfl]; exact h
theorem K.blkY {id i : Nat} (h : K (.exit i) s) (hi : Nat.beq i id = false := by rfl) : blockK id K (.exit i) s := by unfold blockK; show (if i = id then K .normal s else K (.exit i) s); rw [if_neg (Nat.ne_of_beq_eq_false hi)]; exact h
/-! Functions -/
/-- Results: a slot, or a whole variable. -/
def resEl (P : Program) (s : St) : ResultVar → Option El
  | .tmp t => match get s.env t with
    | .rs (.el e) => some e
    | _ => none
  | .cell t T => match get s.env t with
    | .ptr k 0 => match boxOf s.box k with
      | some (_, xs) => bif isRowT P T then (bif (match sizeT P T with
          | some m => Nat.beq xs.length m
          | none => false) then some (.agg xs) else none) else (bif isOneT P T then (match xs with
          | [z] => some (.one z)
          | _ => none) else none)
      | none => none
    | _ => none
def resEls (P : Program) (s : St) : List ResultVar → Option (List El)
  | [] => some []
  | r :: rs => match resEl P s r, resEls P s rs with
    | some e, some es => some (e :: es)
    | _, _ => none
def rsOf : List El → Rs
  | [e] => .el e
  | es => .tup es
def FinK (P : Program) (fn : Func) (r : Rs) (e : Exit) (s : St) : Prop := (e = .ret ∨ e = .normal) ∧ ∃ es, resEls P s fn.results.toList = some es ∧ rsOf es = r
structure ResIs (P : Program) (s : St) (v : ResultVar) (e : El) : Prop where h : resEl P s v = some e
theorem ResIs.tmp {t : Nat} {e : El} (h : get s.env t = .rs (.el e)) : ResIs P s (.tmp t) e := ⟨by simp only [resEl, h]⟩
theorem ResIs.row {t k m : Nat} {T T0 : TypeId} {xs : List At} (h : get s.env t = .ptr k 0) (hk : boxOf s.box k = some (T0, xs)) (ic : RowT P T m) (hl : Nat.beq xs.length m = true) : ResIs P s (.cell t T) (.agg xs) := ⟨by simp only [resEl, h, hk, ic.h, ic.n, hl, cond_true]⟩
theorem isRow_of_one {T : TypeId} (h : isOneT P T = true) : isRowT P T = false := by
  unfold isOneT at h
  unfold isRowT
  cases hu : P.underlying T with
  | none => rfl
  | some d => rw [hu] at h; cases d <;> first | rfl | cases h
theorem ResIs.one {t k : Nat} {T T0 : TypeId} {z : At} (h : get s.env t = .ptr k 0) (hk : boxOf s.box k = some (T0, [z])) (ic : OneT P T) : ResIs P s (.cell t T) (.one z) := ⟨by simp only [resEl, h, hk, ic.h, isRow_of_one ic.h, cond_true, cond_false]⟩
theorem FinK.of {fn : Func} {r : Rs} {es : List El} {x : Exit} (hx : x = .ret ∨ x = .normal) (h : resEls P s fn.results.toList = some es) (hr : rsOf es = r) : FinK P fn r x s := ⟨hx, es, h, hr⟩
theorem FinK.ret0 {fn : Func} {r : Rs} (hv : fn.results.toList = [] := by rfl)  (hr : rsOf [] = r := by first | rfl | (simp [rsOf, *] <;> fail)) : FinK P fn r .ret s := FinK.of (.inl rfl) (by simp [hv, resEls]) hr
theorem FinK.end_0 {fn : Func} {r : Rs} (hv : fn.results.toList = [] := by rfl)  (hr : rsOf [] = r := by first | rfl | (simp [rsOf, *] <;> fail)) : FinK P fn r .normal s := FinK.of (.inr rfl) (by simp [hv, resEls]) hr
theorem FinK.ret1 {fn : Func} {r : Rs} {v1 : ResultVar} {e1 : El} (hv : fn.results.toList = [v1] := by rfl) (h1 : ResIs P s v1 e1 := by first | exact ResIs.tmp rfl | exact ResIs.row rfl rfl inferInstance rfl | exact ResIs.one rfl rfl inferInstance) (hr : rsOf [e1] = r := by first | rfl | (simp [rsOf, *] <;> fail)) : FinK P fn r .ret s := FinK.of (.inl rfl) (by simp [hv, resEls, h1.h]) hr
theorem FinK.end_1 {fn : Func} {r : Rs} {v1 : ResultVar} {e1 : El} (hv : fn.results.toList = [v1] := by rfl) (h1 : ResIs P s v1 e1 := by first | exact ResIs.tmp rfl | exact ResIs.row rfl rfl inferInstance rfl | exact ResIs.one rfl rfl inferInstance) (hr : rsOf [e1] = r := by first | rfl | (simp [rsOf, *] <;> fail)) : FinK P fn r .normal s := FinK.of (.inr rfl) (by simp [hv, resEls, h1.h]) hr
theorem FinK.ret2 {fn : Func} {r : Rs} {v1 v2 : ResultVar} {e1 e2 : El} (hv : fn.results.toList = [v1, v2] := by rfl) (h1 : ResIs P s v1 e1 := by first | exact ResIs.tmp rfl | exact ResIs.row rfl rfl inferInstance rfl | exact ResIs.one rfl rfl inferInstance) (h2 : ResIs P s v2 e2 := by first | exact ResIs.tmp rfl | exact ResIs.row rfl rfl inferInstance rfl | exact ResIs.one rfl rfl inferInstance) (hr : rsOf [e1, e2] = r := by first | rfl | (simp [rsOf, *] <;> fail)) : FinK P fn r .ret s := FinK.of (.inl rfl) (by simp [hv, resEls, h1.h, h2.h]) hr
theorem FinK.end_2 {fn : Func} {r : Rs} {v1 v2 : ResultVar} {e1 e2 : El} (hv : fn.results.toList = [v1, v2] := by rfl) (h1 : ResIs P s v1 e1 := by first | exact ResIs.tmp rfl | exact ResIs.row rfl rfl inferInstance rfl | exact ResIs.one rfl rfl inferInstance) (h2 : ResIs P s v2 e2 := by first | exact ResIs.tmp rfl | exact ResIs.row rfl rfl inferInstance rfl | exact ResIs.one rfl rfl inferInstance) (hr : rsOf [e1, e2] = r := by first | rfl | (simp [rsOf, *] <;> fail)) : FinK P fn r .normal s := FinK.of (.inr rfl) (by simp [hv, resEls, h1.h, h2.h]) hr
theorem FinK.ret3 {fn : Func} {r : Rs} {v1 v2 v3 : ResultVar} {e1 e2 e3 : El} (hv : fn.results.toList = [v1, v2, v3] := by rfl) (h1 : ResIs P s v1 e1 := by first | exact ResIs.tmp rfl | exact ResIs.row rfl rfl inferInstance rfl | exact ResIs.one rfl rfl inferInstance) (h2 : ResIs P s v2 e2 := by first | exact ResIs.tmp rfl | exact ResIs.row rfl rfl inferInstance rfl | exact ResIs.one rfl rfl inferInstance) (h3 : ResIs P s v3 e3 := by first | exact ResIs.tmp rfl | exact ResIs.row rfl rfl inferInstance rfl | exact ResIs.one rfl rfl inferInstance) (hr : rsOf [e1, e2, e3] = r := by first | rfl | (simp [rsOf, *] <;> fail)) : FinK P fn r .ret s := FinK.of (.inl rfl) (by simp [hv, resEls, h1.h, h2.h, h3.h]) hr
theorem FinK.end_3 {fn : Func} {r : Rs} {v1 v2 v3 : ResultVar} {e1 e2 e3 : El} (hv : fn.results.toList = [v1, v2, v3] := by rfl) (h1 : ResIs P s v1 e1 := by first | exact ResIs.tmp rfl | exact ResIs.row rfl rfl inferInstance rfl | exact ResIs.one rfl rfl inferInstance) (h2 : ResIs P s v2 e2 := by first | exact ResIs.tmp rfl | exact ResIs.row rfl rfl inferInstance rfl | exact ResIs.one rfl rfl inferInstance) (h3 : ResIs P s v3 e3 := by first | exact ResIs.tmp rfl | exact ResIs.row rfl rfl inferInstance rfl | exact ResIs.one rfl rfl inferInstance) (hr : rsOf [e1, e2, e3] = r := by first | rfl | (simp [rsOf, *] <;> fail)) : FinK P fn r .normal s := FinK.of (.inr rfl) (by simp [hv, resEls, h1.h, h2.h, h3.h]) hr
theorem run_resEl {out : Nat → Prop} {w0 : Base} {ρ : Nat → Nat} {a : Act} {w : World} (hr : RelP out w0 ρ s a w) {r : ResultVar} {e : El} (h : resEl P s r = some e) : ∃ v, (match r with
    | .tmp t => pure (a.tmps.getD t undef)
    | .cell c t => do loadVar t (← asAddr (a.tmps.getD c undef)) : Sem Value).run P w = .ok v w ∧ SeesE w (badOf out ρ s) v e := by
  cases r with
  | tmp t =>
    have h : (match get s.env t with
      | .rs (.el e) => some e
      | _ => none) = some e := h
    split at h
    · rename_i e' he
      cases h
      have := hr.slots t
      rw [he] at this
      exact ⟨_, rfl, this⟩
    · cases h
  | cell t T =>
    simp only [resEl] at h
    split at h
    · rename_i k he
      have h0 := hr.slots t
      rw [he] at h0
      have h0 : a.tmps.getD t undef = .pointer (some ⟨ρ k, 0, none⟩) := h0
      split at h
      · rename_i T0 xs hk
        obtain ⟨_, cs, h1, h2⟩ := hr.boxes k _ xs hk
        cases hrow : isRowT P T with
        | true =>
          rw [hrow] at h
          simp only [cond_true] at h
          cases hs : sizeT P T with
          | none => rw [hs] at h; cases h
          | some m =>
            rw [hs] at h
            simp only [] at h
            cases hb : Nat.beq xs.length m with
            | false => rw [hb] at h; cases h
            | true =>
              rw [hb] at h
              cases h
              have hm := Nat.eq_of_beq_eq_true hb
              obtain ⟨d, hu, hd⟩ := isRow_some hrow
              have := run_loadVar_mid (P := P) w (ρ k) 0 T cs d (fun j v hv => by rw [Nat.zero_add, cell_of_box h1]; exact hv) hu hd (by rw [h2.len, hm]; exact hs)
              refine ⟨.agg cs.toArray, ?_, cs, rfl, h2⟩
              simp only [h0, asAddr, Sem.run_bind, Sem.run_pure, Result.andThen_ok]
              exact this
        | false =>
          rw [hrow] at h
          simp only [cond_false] at h
          cases hone : isOneT P T with
          | false => rw [hone] at h; cases h
          | true =>
            rw [hone] at h
            simp only [cond_true] at h
            split at h
            · rename_i z
              cases h
              obtain ⟨u, hu⟩ : ∃ u, cs[0]? = some u := ⟨_, List.getElem?_eq_getElem (by have := h2.len; simp at this; omega)⟩
              refine ⟨u, ?_, h2.at_ 0 u z hu rfl⟩
              simp [h0, asAddr, loadVar, Sem.run_bind, isAgg_one T hone w, load, Sem.run, (cell_of_box h1).trans hu]
            · cases h
      · cases h
    · cases h
theorem run_resEls {out : Nat → Prop} {w0 : Base} {ρ : Nat → Nat} {a : Act} {w : World} (hr : RelP out w0 ρ s a w) : ∀ {rs : List ResultVar} {es : List El}, resEls P s rs = some es → ∃ vs : List Value, (rs.mapM fun
    | .tmp t => pure (a.tmps.getD t undef)
    | .cell c t => do loadVar t (← asAddr (a.tmps.getD c undef)) : Sem (List Value)).run P w = .ok vs w ∧ vs.length = es.length ∧ ∀ (i : Nat) (u : Value) (e : El), vs[i]? = some u → es[i]? = some e → SeesE w (badOf out ρ s) u e
  | [], es, h => by cases h; exact ⟨[], rfl, rfl, fun i u e h => by simp at h⟩
  | r :: rs, es, h => by
    unfold resEls at h
    split at h
    · rename_i e es' h1 h2
      cases h
      obtain ⟨v, g1, g2⟩ := run_resEl hr h1
      obtain ⟨vs, g3, g4, g5⟩ := run_resEls hr h2
      refine ⟨v :: vs, ?_, by simp [g4], fun i u e' a1 a2 => ?_⟩
      · rw [List.mapM_cons]
        simp only [Sem.run_bind, g1, Result.andThen_ok, g3]
        rfl
      · cases i with
        | zero => cases a1; cases a2; exact g2
        | succ i => exact g5 i u e' (by simpa using a1) (by simpa using a2)
    · cases h
def argEnv : Nat → List El → List (Nat × Den)
  | _, [] => []
  | i, e :: r => (i, .rs (.el e)) :: argEnv (i + 1) r
theorem get_argEnv : ∀ (ds : List El) (k i : Nat), get (argEnv k ds) i = if h : k ≤ i ∧ i - k < ds.length then .rs (.el ds[i - k]) else .any
  | [], k, i => by simp [argEnv, get]
  | e :: r, k, i => by
    unfold argEnv
    by_cases hki : k = i
    · subst hki
      rw [get_same]
      simp
    · rw [get_other hki, get_argEnv r (k + 1) i]
      by_cases h : k + 1 ≤ i ∧ i - (k + 1) < r.length
      · rw [dif_pos h, dif_pos ⟨by omega, by simp; omega⟩]
        have : i - k = (i - (k + 1)) + 1 := by omega
        simp [this]
      · rw [dif_neg h, dif_neg (by simp; omega)]
theorem fin_post {fn : Func} {r : Rs} {out : Nat → Prop} {w : World} {pn : Nat → Nat} {e : Exit} {a' : Act} {w' : World} (h : ∃ s', FinK P fn r e s' ∧ Rel out ⟨w, [], pn⟩ s' a' w') : bodyPost P fn (fun e w' => ∃ v, e = .returned v ∧ SeesR w' out v r ∧ Below w.heap.size w w') e a' w' := by
  obtain ⟨s', ⟨he, es, h1, h2⟩, ρ, hr⟩ := h
  obtain ⟨us, g1, g2, g3⟩ := run_resEls hr h1
  have hres : (results fn a'.tmps).run P w' = .ok (if h : us.length = 1 then us[0] else .tuple us.toArray) w' := by
    unfold results
    rw [Array.mapM_eq_mapM_toList]
    simp only [Array.getD_eq_getD_getElem?] at g1
    simp
    refine (congrArg (fun z => Result.andThen z _) g1).trans ?_
    simp
  have hm : Moves w' (badOf out ρ s') w' out := Moves.less (fun b hb => .inl hb)
  have hsee : SeesR w' out (if h : us.length = 1 then us[0] else .tuple us.toArray) r := by
    subst h2
    match es, us, g2, g3 with
    | [], [], _, _ => exact ⟨[], rfl, rfl, fun i u e h => by simp at h⟩
    | [e], [u], _, g3 => exact (g3 0 u e rfl rfl).move hm
    | e1 :: e2 :: es, u1 :: u2 :: us, g2, g3 =>
      rw [dif_neg (by simp)]
      exact ⟨u1 :: u2 :: us, rfl, g2, fun i u e a1 a2 => (g3 i u e a1 a2).move hm⟩
  have hp : a'.defers = [] ∧ ∃ v, (results fn a'.tmps).run P w' = .ok v w' ∧ ∃ u, Ending.returned v = .returned u ∧ SeesR w' out u r ∧ Below w.heap.size w w' := ⟨hr.defers, _, hres, _, rfl, hsee, hr.below⟩
  rcases he with rfl | rfl <;> exact hp
theorem Tells.body {f : FuncId} {fn : Func} {c : Code} {ds : List El} {r : Rs} (hf : P.funcs[f]? = some fn) (hc : fn.body = some c) (hlen : Nat.ble ds.length fn.ntmps = true) (h : AWp P c ⟨fn.ntmps, argEnv 0 ds, []⟩ (FinK P fn r)) (hname : (fn.name == "runtime.NumGoroutine") = false) : Tells P f ds r := by
  intro out w vs hout hl hv
  have hn := Nat.le_of_ble_eq_true hlen
  unfold AWp at h
  refine .inl ⟨?_, ?_⟩
  · have h1 : fn.name ≠ "runtime.NumGoroutine" := by simpa using hname
    simp [callFunc, hf, h1, hc]
  · refine calls_of_wp hf hc (wp_mono (h out ⟨w, [], fun _ => 0⟩ _ w ⟨fun _ => 0, ?_⟩) ?_)
    · have hsz : vs.toArray.size = vs.length := by simp
      refine ⟨by simp; omega, rfl, fun _ _ => rfl, fun t => ?_, fun k T xs hk => (by cases hk), fun k k' hk => (by cases hk), fun t k ht => ?_, hout, Below.refl _ _⟩
      · show SeesD w _ _ _ (get (argEnv 0 ds) t)
        rw [get_argEnv]
        split
        · rename_i hh
          have ht : t < vs.length := by omega
          have : (vs.toArray ++ Array.replicate (fn.ntmps - vs.toArray.size) undef).getD t undef = vs[t] := by
            simp [Array.getElem?_append, ht]
          rw [this]
          have hm : Moves w out w (badOf out (fun _ => 0) ⟨fn.ntmps, argEnv 0 ds, []⟩) := Moves.less (fun b hb => by
            rcases hb with hb | ⟨k, hk, _⟩
            · exact hb
            · cases hk)
          exact (hv t vs[t] (ds[t - 0]) (List.getElem?_eq_getElem ht) (by simp)).move hm
        · trivial
      · have ht : k ∈ (get (argEnv 0 ds) t).ks := ht
        rw [get_argEnv] at ht
        split at ht <;> cases ht
    · exact fun e a' w' h => fin_post h
end

/-- The walk through a body, by itself. -/
theorem Tells.go {P : Program} {f : FuncId} {fn : Func} {c : Code} {ds : List El} {r : Rs} (hf : P.funcs[f]? = some fn) {n : Nat} (hn : fn.ntmps = n) (hc : fn.body = some c := by rfl) (h : AWp P c ⟨n, argEnv 0 ds, []⟩ (FinK P fn r) := by
    repeat' (first
      | refine Run.mv ?_ | refine Run.asg ?_ | refine Run.fld ?_ | refine Run.ld1 ?_ | refine Run.ld3 ?_ | refine Run.ld2 ?_ | refine Run.call1 ?_ | refine Run.call2 ?_ | refine Run.call3 ?_ | refine Run.call0 ?_ | refine Run.st ?_ | refine Run.icmp ?_ | refine Run.sub0 ?_ | refine Run.iar64 ?_ | refine Run.cat ?_ | refine Run.iark ?_ | refine Run.bcmp ?_ | refine Run.bin ?_ | refine Run.bx ?_ | refine Run.al ?_ | refine Run.ext ?_
      | refine Run.skp ?_ | refine Run.skp0 ?_ | refine Run.pckT ?_ | refine Run.pckF ?_ | refine Run.not ?_ | refine Run.neg64 ?_ | refine Run.un ?_ | refine Run.len ?_ | refine Run.cnv64 ?_ | refine Run.cnvk ?_ | refine Run.cnv ?_ | refine Run.bld2 ?_ | refine Run.bld3 ?_ | refine Run.st1 ?_ | refine Run.bx1 ?_ | refine Run.mx ?_ | refine Run.mn ?_ | refine Run.bi2 ?_ | refine Run.slc ?_ | refine Run.fdv ?_
      | refine Run.endF ?_ | refine Run.endT ?_ | exact FinK.ret1 | exact FinK.ret2 | refine K.thenN ?_ | refine K.thenR ?_ | refine K.blkN ?_ | refine K.blkR ?_ | refine K.blkX ?_ | refine K.thenX ?_ | refine K.blkY ?_
      | refine AWp.seq ?_ | refine AWp.regF ?_ | refine AWp.regT ?_ | refine AWp.ret ?_ | refine AWp.condT ?_ | refine AWp.condF ?_ | refine AWp.skip ?_ | refine AWp.block ?_ | refine AWp.exit ?_ | exact FinK.ret3 | exact FinK.end_0 | exact FinK.end_1 | exact FinK.ret0))
    (hlen : Nat.ble ds.length fn.ntmps = true := by kernel_rfl) (hname : (fn.name == "runtime.NumGoroutine") = false := by kernel_rfl) : Tells P f ds r := Tells.body hf hc hlen (by rw [hn]; exact h) hname

/-! ### From a contract of another form -/
theorem Tells.of {P : Program} {f : FuncId} {fn : Func} {ds : List El} {r : Rs} (hf : P.funcs[f]? = some fn) (h : ∀ (out : Nat → Prop) (w : World) (vs : List Value), (∀ b, out b → b < w.heap.size) → vs.length = ds.length → (∀ (i : Nat) (u : Value) (e : El), vs[i]? = some u → ds[i]? = some e → SeesE w out u e) → Calls P f vs.toArray w fun e w' => ∃ v, e = .returned v ∧ SeesR w' out v r ∧ Below w.heap.size w w')
    (hname : (fn.name == "runtime.NumGoroutine") = false := by kernel_rfl) (hb : fn.body.isSome = true := by rfl) : Tells P f ds r := fun out w vs ho hl hv => by
  have h1 : fn.name ≠ "runtime.NumGoroutine" := by simpa using hname
  obtain ⟨c, hc⟩ := Option.isSome_iff_exists.1 hb
  exact .inl ⟨by simp [callFunc, hf, h1, hc], h out w vs ho hl hv⟩
theorem args1 {w : World} {out : Nat → Prop} {vs : List Value} {e1 : El} (hl : vs.length = [e1].length) (hv : ∀ (i : Nat) (u : Value) (e : El), vs[i]? = some u → [e1][i]? = some e → SeesE w out u e) : ∃ u1, vs = [u1] ∧ SeesE w out u1 e1 := by
  match vs, hl with
  | [u1], _ => exact ⟨u1, rfl, hv 0 u1 e1 rfl rfl⟩
theorem args2 {w : World} {out : Nat → Prop} {vs : List Value} {e1 e2 : El} (hl : vs.length = [e1, e2].length) (hv : ∀ (i : Nat) (u : Value) (e : El), vs[i]? = some u → [e1, e2][i]? = some e → SeesE w out u e) : ∃ u1 u2, vs = [u1, u2] ∧ SeesE w out u1 e1 ∧ SeesE w out u2 e2 := by
  match vs, hl with
  | [u1, u2], _ => exact ⟨u1, u2, rfl, hv 0 u1 e1 rfl rfl, hv 1 u2 e2 rfl rfl⟩
section
variable {w w' : World} {out ok : Nat → Prop} {e : Nat} {v : Value} {xs : List Int}
theorem row_R (h : Kd.R (Kd.int .u32) e w' w.heap.size ok v xs) (ho : ∀ b, out b → b < w.heap.size) : SeesA w' out v (.row xs) := by
  obtain ⟨A, c, rfl, hl, hc⟩ := Kd.R_reads h
  refine ⟨A, c, rfl, hl, hc, fun ad hA hn hbad => ?_⟩
  have := Kd.R_base h ad.block (by rw [hA]; rfl)
  exact Nat.not_lt.2 this (ho _ hbad)
theorem row_V (h : Kd.V (Kd.int .u32) e w' w.heap.size ok v xs) (ho : ∀ b, out b → ¬ ok b) : SeesA w' out v (.row xs) := by
  obtain ⟨A, c, rfl, hl, hf⟩ := h
  refine ⟨A, c, rfl, hl, Kd.F_now hf, fun ad hA hn hbad => ?_⟩
  exact ho _ hbad (Kd.F_in hf hA (List.length_pos_iff.2 hn) (by decide))
theorem tup_of {w : World} {out : Nat → Prop} {vs : List Value} {es : List El} (hl : vs.length = es.length) (h : ∀ (i : Nat) (u : Value) (e : El), vs[i]? = some u → es[i]? = some e → SeesE w out u e) : SeesR w out (.tuple vs.toArray) (.tup es) := ⟨vs, rfl, hl, h⟩
theorem tup2 {w : World} {out : Nat → Prop} {v1 v2 : Value} {e1 e2 : El} (h1 : SeesE w out v1 e1) (h2 : SeesE w out v2 e2) : SeesR w out (.tuple #[v1, v2]) (.tup [e1, e2]) := ⟨[v1, v2], rfl, rfl, fun i u e a b => by
  match i with
  | 0 => cases a; cases b; exact h1
  | 1 => cases a; cases b; exact h2
  | i + 2 => simp at a⟩
theorem tup3 {w : World} {out : Nat → Prop} {v1 v2 v3 : Value} {e1 e2 e3 : El} (h1 : SeesE w out v1 e1) (h2 : SeesE w out v2 e2) (h3 : SeesE w out v3 e3) : SeesR w out (.tuple #[v1, v2, v3]) (.tup [e1, e2, e3]) := ⟨[v1, v2, v3], rfl, rfl, fun i u e a b => by
  match i with
  | 0 => cases a; cases b; exact h1
  | 1 => cases a; cases b; exact h2
  | 2 => cases a; cases b; exact h3
  | i + 3 => simp at a⟩
theorem below_of_drawn {w w' : World} (h : Drawn0 w w') : Below w.heap.size w w' := by
  obtain ⟨n, rfl⟩ := h.out
  exact pw_below_drewN (Below.refl _ _) n
end

/-! ### Back to a contract of another form -/
theorem args_mk0 {w : World} {out : Nat → Prop} : ∀ (i : Nat) (u : Value) (e : El), ([] : List Value)[i]? = some u → ([] : List El)[i]? = some e → SeesE w out u e := fun i u e h => by simp at h
theorem args_cons {w : World} {out : Nat → Prop} {v : Value} {d : El} {vs : List Value} {ds : List El} (h : SeesE w out v d) (hs : ∀ (i : Nat) (u : Value) (e : El), vs[i]? = some u → ds[i]? = some e → SeesE w out u e) : ∀ (i : Nat) (u : Value) (e : El), (v :: vs)[i]? = some u → (d :: ds)[i]? = some e → SeesE w out u e := fun i u e a b => by
  cases i with
  | zero => cases a; cases b; exact h
  | succ i => exact hs i u e (by simpa using a) (by simpa using b)
theorem law_calls {P : Program} {f : FuncId} {fn : Func} {ds : List El} {vs : List Value} {w : World} (hf : P.funcs[f]? = some fn) (ht : Tl P f ds (.el (.one (.val (.bool true))))) (hl : vs.length = ds.length) (hv : ∀ (i : Nat) (u : Value) (e : El), vs[i]? = some u → ds[i]? = some e → SeesE w (fun _ => False) u e)
    (hname : (fn.name == "runtime.NumGoroutine") = false := by kernel_rfl) (hb : fn.body.isSome = true := by rfl) : Calls P f vs.toArray w fun e w' => e = .returned (.bool true) ∧ Below w.heap.size w w' := by
  have h1 : fn.name ≠ "runtime.NumGoroutine" := by simpa using hname
  obtain ⟨c, hc⟩ := Option.isSome_iff_exists.1 hb
  rcases ht.t (fun _ => False) w vs (fun _ h => h.elim) hl hv with ⟨_, h⟩ | ⟨v, h, _⟩
  · refine h.mono fun e w' hh => ?_
    obtain ⟨v, rfl, h2, h3⟩ := hh
    exact ⟨by rw [h2.1], h3⟩
  · rw [show (callFunc f vs.toArray).run P w = .ok (.enter f vs.toArray) w by simp [callFunc, hf, h1, hc]] at h
    cases h
end Go.Proofs.Ytcdkopidgibijaa.Lin
