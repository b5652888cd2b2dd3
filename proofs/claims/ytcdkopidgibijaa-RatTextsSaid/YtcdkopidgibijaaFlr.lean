/- Steps on floating-point numbers and on bits. -/
import Derived.Test.YtcdkopidgibijaaRun
import Derived.Test.YtcdkopidgibijaaFlo
import Derived.Laws.Entries
import Derived.Laws.FloatArith
namespace Go.Proofs.Ytcdkopidgibijaa.Lin
open Go Go.RowKit Go.Proofs.YtcdkopidgibijaaW.PrintWords Go.Proofs.YtcdkopidgibijaaW.PrintMore
class FloT (P : Program) (T : Nat) : Prop where h : (P.underlying T).isSome = true
def fcmpV : BinOp → Nat → Nat → Option Bool
  | .eql, a, b => some (Ieee.double.order a b == some .eq)
  | .neq, a, b => some (Ieee.double.order a b != some .eq)
  | .lss, a, b => some (Ieee.double.order a b == some .lt)
  | .leq, a, b => some (Ieee.double.order a b == some .lt || Ieee.double.order a b == some .eq)
  | .gtr, a, b => some (Ieee.double.order a b == some .gt)
  | .geq, a, b => some (Ieee.double.order a b == some .gt || Ieee.double.order a b == some .eq)
  | _, _, _ => none
def bitV : BinOp → Option BinOp
  | .and => some .and
  | .or => some .or
  | .xor => some .xor
  | .andNot => some .andNot
  | _ => none
section
variable {P : Program} {ops : Array Oper} {s0 : St} {G : St → List Tr → Prop} {o : Oper} {rest : List Oper} {i : Nat} {l : List Tr} {n : Nat} {env : List (Nat × Den)} {box : List (Nat × TypeId × List At)}
variable {t k off : Nat} {x y : Operand} {e : El} {T T0 T2 : TypeId} {xs : List At} {g : List Nat}
theorem run_fcmp {op : BinOp} {a b : Nat} {c : Bool} (h : fcmpV op a b = some c) (w : World) : (binOp op T (.float .f64 a) (.float .f64 b)).run P w = .ok (.bool c) w := by
  cases op <;> (first | (cases h; done) | (cases h; simp [binOp, Op.floatCmp, FloatKind.format]; done))
theorem Run.fcmp {op : BinOp} {a b : Nat} {c : Bool} (h : Run P ops s0 G rest (i + 1) (⟨i, g ++ (rdOp x ++ rdOp y), .slot t (.rs (.el (.one (.val (.bool c)))))⟩ :: l) n ((t, .rs (.el (.one (.val (.bool c))))) :: env) box) (hop : o.op = .binOp op T x y T2 := by rfl) (hb : GOn ops env o g := by first | exact GOn.none rfl | exact GOn.some rfl rfl rfl) (hd : o.dst = some t := by rfl)
    (hx : valOf (denOf env x) = some (.float .f64 a) := by rfl) (hy : valOf (denOf env y) = some (.float .f64 b) := by rfl) (hc : fcmpV op a b = some c := by rfl) (ht : Nat.blt t n = true := by rfl) : Run P ops s0 G (o :: rest) i l n env box := Run.bin_ h hop hb hd hx hy (fun w => by exact run_val (fun _ h => by cases h) (fun h => by cases h) (run_fcmp hc w)) rfl ht
theorem Run.fmul {a b c : Nat} (h : Run P ops s0 G rest (i + 1) (⟨i, g ++ (rdOp x ++ rdOp y), .slot t (.rs (.el (.one (.val (.float .f64 c)))))⟩ :: l) n ((t, .rs (.el (.one (.val (.float .f64 c))))) :: env) box) (hop : o.op = .binOp .mul T x y T2 := by rfl) (hb : GOn ops env o g := by first | exact GOn.none rfl | exact GOn.some rfl rfl rfl) (hd : o.dst = some t := by rfl)
    (hx : valOf (denOf env x) = some (.float .f64 a) := by rfl) (hy : valOf (denOf env y) = some (.float .f64 b) := by rfl) (hc : Ieee.double.mul a b = some c := by assumption) (ht : Nat.blt t n = true := by rfl) : Run P ops s0 G (o :: rest) i l n env box := Run.bin_ h hop hb hd hx hy (fun w => by exact run_val (fun _ h => by cases h) (fun h => by cases h) (run_float_arith w .mul T .f64 a b c hc)) rfl ht
theorem Run.fsub {a b c : Nat} (h : Run P ops s0 G rest (i + 1) (⟨i, g ++ (rdOp x ++ rdOp y), .slot t (.rs (.el (.one (.val (.float .f64 c)))))⟩ :: l) n ((t, .rs (.el (.one (.val (.float .f64 c))))) :: env) box) (hop : o.op = .binOp .sub T x y T2 := by rfl) (hb : GOn ops env o g := by first | exact GOn.none rfl | exact GOn.some rfl rfl rfl) (hd : o.dst = some t := by rfl)
    (hx : valOf (denOf env x) = some (.float .f64 a) := by rfl) (hy : valOf (denOf env y) = some (.float .f64 b) := by rfl) (hc : Ieee.double.sub a b = some c := by assumption) (ht : Nat.blt t n = true := by rfl) : Run P ops s0 G (o :: rest) i l n env box := Run.bin_ h hop hb hd hx hy (fun w => by exact run_val (fun _ h => by cases h) (fun h => by cases h) (run_float_arith w .sub T .f64 a b c hc)) rfl ht
theorem Run.fneg {a : Nat} (h : Run P ops s0 G rest (i + 1) (⟨i, g ++ rdOp x, .slot t (.rs (.el (.one (.val (.float .f64 (a ^^^ 9223372036854775808))))))⟩ :: l) n ((t, .rs (.el (.one (.val (.float .f64 (a ^^^ 9223372036854775808)))))) :: env) box) (hop : o.op = .unOp .neg T x := by rfl) (hb : GOn ops env o g := by first | exact GOn.none rfl | exact GOn.some rfl rfl rfl) (hd : o.dst = some t := by rfl)
    (hx : valOf (denOf env x) = some (.float .f64 a) := by rfl) (ht : Nat.blt t n = true := by rfl) : Run P ops s0 G (o :: rest) i l n env box := Run.un h hop hb hd hx (fun _ => rfl) rfl ht
theorem run_bit {op op' : BinOp} {k : IntKind} {a b : Int} (h : bitV op = some op') (w : World) : (binOp op T (.int k a) (.int k b)).run P w = .ok (.int k (bits op' k a b)) w := by
  cases op <;> (first | (cases h; done) | (cases h; simp [binOp, intBits_and, intBits_or, intBits_xor, intBits_andNot]; done))
theorem Run.ibit {op op' : BinOp} {k : IntKind} {a b : Int} (h : Run P ops s0 G rest (i + 1) (⟨i, g ++ (rdOp x ++ rdOp y), .slot t (.rs (.el (.one (.val (.int k (bits op' k a b))))))⟩ :: l) n ((t, .rs (.el (.one (.val (.int k (bits op' k a b)))))) :: env) box) (hop : o.op = .binOp op T x y T2 := by rfl) (hb : GOn ops env o g := by first | exact GOn.none rfl | exact GOn.some rfl rfl rfl) (hd : o.dst = some t := by rfl)
    (hx : valOf (denOf env x) = some (.int k a) := by rfl) (hy : valOf (denOf env y) = some (.int k b) := by rfl) (hc : bitV op = some op' := by rfl) (ht : Nat.blt t n = true := by rfl) : Run P ops s0 G (o :: rest) i l n env box := Run.bin_ h hop hb hd hx hy (fun w => by exact run_val (fun _ h => by cases h) (fun h => by cases h) (run_bit hc w)) rfl ht
theorem Run.shr {k k2 : IntKind} {a : Int} {m : Nat} (h : Run P ops s0 G rest (i + 1) (⟨i, g ++ (rdOp x ++ rdOp y), .slot t (.rs (.el (.one (.val (.int k (a / 2 ^ m))))))⟩ :: l) n ((t, .rs (.el (.one (.val (.int k (a / 2 ^ m)))))) :: env) box) (hop : o.op = .binOp .shr T x y T2 := by rfl) (hb : GOn ops env o g := by first | exact GOn.none rfl | exact GOn.some rfl rfl rfl) (hd : o.dst = some t := by rfl)
    (hx : valOf (denOf env x) = some (.int k a) := by rfl) (hy : valOf (denOf env y) = some (.int k2 (Int.ofNat m)) := by rfl) (hm : Nat.ble m k.bits = true := by rfl) (ht : Nat.blt t n = true := by rfl) : Run P ops s0 G (o :: rest) i l n env box := Run.bin_ h hop hb hd hx hy (fun w => by
      refine run_val (fun _ h => by cases h) (fun h => by cases h) ?_
      rw [binOp_shr, shift_shr k k2 a (Int.ofNat m) (Int.natCast_nonneg m) (by have := Nat.le_of_ble_eq_true hm; exact Int.ofNat_le.2 this)]
      rfl) rfl ht
theorem Run.shl {k k2 : IntKind} {a : Int} {m : Nat} (h : Run P ops s0 G rest (i + 1) (⟨i, g ++ (rdOp x ++ rdOp y), .slot t (.rs (.el (.one (.val (.int k (k.wrap (a * 2 ^ m)))))))⟩ :: l) n ((t, .rs (.el (.one (.val (.int k (k.wrap (a * 2 ^ m))))))) :: env) box) (hop : o.op = .binOp .shl T x y T2 := by rfl) (hb : GOn ops env o g := by first | exact GOn.none rfl | exact GOn.some rfl rfl rfl) (hd : o.dst = some t := by rfl)
    (hx : valOf (denOf env x) = some (.int k a) := by rfl) (hy : valOf (denOf env y) = some (.int k2 (Int.ofNat m)) := by rfl) (hm : Nat.ble m k.bits = true := by rfl) (ht : Nat.blt t n = true := by rfl) : Run P ops s0 G (o :: rest) i l n env box := Run.bin_ h hop hb hd hx hy (fun w => by
      refine run_val (fun _ h => by cases h) (fun h => by cases h) ?_
      rw [binOp_shl, shift_shl k k2 a (Int.ofNat m) (Int.natCast_nonneg m) (by have := Nat.le_of_ble_eq_true hm; exact Int.ofNat_le.2 this)]
      rfl) rfl ht
theorem Run.iquo {k : IntKind} {a b : Int} (h : Run P ops s0 G rest (i + 1) (⟨i, g ++ (rdOp x ++ rdOp y), .slot t (.rs (.el (.one (.val (.int k (k.wrap (a.tdiv b)))))))⟩ :: l) n ((t, .rs (.el (.one (.val (.int k (k.wrap (a.tdiv b))))))) :: env) box) (hop : o.op = .binOp .quo T x y T2 := by rfl) (hb : GOn ops env o g := by first | exact GOn.none rfl | exact GOn.some rfl rfl rfl) (hd : o.dst = some t := by rfl)
    (hx : valOf (denOf env x) = some (.int k a) := by rfl) (hy : valOf (denOf env y) = some (.int k b) := by rfl) (hb0 : (b != 0) = true := by rfl) (ht : Nat.blt t n = true := by rfl) : Run P ops s0 G (o :: rest) i l n env box := Run.bin_ h hop hb hd hx hy (fun w => by
      have hb0 : b ≠ 0 := by simpa using hb0
      exact run_val (fun _ h => by cases h) (fun h => by cases h) (by simp [binOp, Op.intDiv, hb0])) rfl ht
theorem Run.irem {k : IntKind} {a b : Int} (h : Run P ops s0 G rest (i + 1) (⟨i, g ++ (rdOp x ++ rdOp y), .slot t (.rs (.el (.one (.val (.int k (a.tmod b))))))⟩ :: l) n ((t, .rs (.el (.one (.val (.int k (a.tmod b)))))) :: env) box) (hop : o.op = .binOp .rem T x y T2 := by rfl) (hb : GOn ops env o g := by first | exact GOn.none rfl | exact GOn.some rfl rfl rfl) (hd : o.dst = some t := by rfl)
    (hx : valOf (denOf env x) = some (.int k a) := by rfl) (hy : valOf (denOf env y) = some (.int k b) := by rfl) (hb0 : (b != 0) = true := by rfl) (ht : Nat.blt t n = true := by rfl) : Run P ops s0 G (o :: rest) i l n env box := Run.bin_ h hop hb hd hx hy (fun w => by
      have hb0 : b ≠ 0 := by simpa using hb0
      exact run_val (fun _ h => by cases h) (fun h => by cases h) (by simp [binOp, Op.intDiv, hb0])) rfl ht
theorem Run.f2i {k : IntKind} {a : Nat} {m : Int} (h : Run P ops s0 G rest (i + 1) (⟨i, g ++ rdOp x, .slot t (.rs (.el (.one (.val (.int k m)))))⟩ :: l) n ((t, .rs (.el (.one (.val (.int k m))))) :: env) box) (hop : o.op = .convert T T2 x := by rfl) (hb : GOn ops env o g := by first | exact GOn.none rfl | exact GOn.some rfl rfl rfl) (hd : o.dst = some t := by rfl)
    (hx : valOf (denOf env x) = some (.float .f64 a) := by rfl) (i1 : FloT P T := by infer_instance) (i2 : IntT P T2 k := by infer_instance) (hm : floatToIntVal .f64 a k = some m := by assumption) (ht : Nat.blt t n = true := by rfl) : Run P ops s0 G (o :: rest) i l n env box := Run.cnv_ h hop hb hd hx (fun w => run_convert_float_int w T T2 .f64 k a m i1.h i2.h hm) rfl ht
end
/-- A function without a body: the model's own. -/
theorem Tells.ext {P : Program} {f : FuncId} {fn : Func} {ds : List El} {r : Rs} {e : Array Value → Sem Value} (hf : P.funcs[f]? = some fn) (hname : (fn.name == "runtime.NumGoroutine") = false) (hb : fn.body.isNone = true) (hn : Extern.findNext fn = none) (he : Extern.find fn = some e)
    (h : ∀ (out : Nat → Prop) (w : World) (vs : List Value), vs.length = ds.length → (∀ (i : Nat) (u : Value) (d : El), vs[i]? = some u → ds[i]? = some d → SeesE w out u d) → ∃ v, (e vs.toArray).run P w = .ok v w ∧ SeesR w out v r) : Tells P f ds r := fun out w vs ho hl hv => by
  obtain ⟨v, h1, h2⟩ := h out w vs hl hv
  exact .inr ⟨v, by rw [run_callFunc_extern hf hname hb hn he, h1]; rfl, h2, Below.refl _ _⟩
theorem Tells.conv {P : Program} {f : FuncId} {ds : List El} {r r' : Rs} (h : Tells P f ds r) (e : r = r') : Tells P f ds r' := e ▸ h
/-- The walk by itself, with floats and bits. -/
theorem Tells.goF {P : Program} {f : FuncId} {fn : Func} {c : Code} {ds : List El} {r : Rs} (hf : P.funcs[f]? = some fn) {n : Nat} (hn : fn.ntmps = n) (hc : fn.body = some c := by rfl) (h : AWp P c ⟨n, argEnv 0 ds, []⟩ (FinK P fn r) := by
    repeat' (first
      | refine Run.mv ?_ | refine Run.asg ?_ | refine Run.fcmp ?_ | refine Run.ibit ?_ | refine Run.shr ?_ | refine Run.shl ?_ | refine Run.iquo ?_ | refine Run.irem ?_ | refine Run.fneg ?_ | refine Run.fmul ?_ | refine Run.fsub ?_ | refine Run.f2i ?_ | refine Run.fld ?_ | refine Run.ld1 ?_ | refine Run.ld3 ?_ | refine Run.ld2 ?_ | refine Run.call1 ?_ | refine Run.call2 ?_ | refine Run.call3 ?_ | refine Run.call0 ?_ | refine Run.st ?_ | refine Run.icmp ?_ | refine Run.sub0 ?_ | refine Run.iar64 ?_ | refine Run.cat ?_ | refine Run.iark ?_ | refine Run.bcmp ?_ | refine Run.bx ?_ | refine Run.al ?_ | refine Run.ext ?_
      | refine Run.skp ?_ | refine Run.skp0 ?_ | refine Run.pckT ?_ | refine Run.pckF ?_ | refine Run.not ?_ | refine Run.neg64 ?_ | refine Run.len ?_ | refine Run.cnv64 ?_ | refine Run.cnvk ?_ | refine Run.bld2 ?_ | refine Run.bld3 ?_ | refine Run.st1 ?_ | refine Run.bx1 ?_ | refine Run.mx ?_ | refine Run.mn ?_ | refine Run.fdv ?_ | refine Run.bin ?_
      | refine Run.endF ?_ | refine Run.endT ?_ | exact FinK.ret1 | exact FinK.ret2 | refine K.thenN ?_ | refine K.thenR ?_ | refine K.blkN ?_ | refine K.blkR ?_ | refine K.blkX ?_ | refine K.thenX ?_ | refine K.blkY ?_
      | refine AWp.seq ?_ | refine AWp.regF ?_ | refine AWp.regT ?_ | refine AWp.ret ?_ | refine AWp.condT ?_ | refine AWp.condF ?_ | refine AWp.skip ?_ | refine AWp.block ?_ | refine AWp.exit ?_ | exact FinK.ret3 | exact FinK.end_0 | exact FinK.end_1 | exact FinK.ret0))
    (hlen : Nat.ble ds.length fn.ntmps = true := by kernel_rfl) (hname : (fn.name == "runtime.NumGoroutine") = false := by kernel_rfl) : Tells P f ds r := Tells.body hf hc hlen (by rw [hn]; exact h) hname
end Go.Proofs.Ytcdkopidgibijaa.Lin
