/- Steps on texts: how long, a byte, a part of one. -/
import Derived.Test.YtcdkopidgibijaaFlr
import Derived.Test.YtcdkopidgibijaaLoop
import Derived.Laws.Externs
import Derived.Laws.Strings
import Derived.Laws.Slices
namespace Go.Proofs.Ytcdkopidgibijaa.Lin
open Go Go.RowKit Go.Proofs.YtcdkopidgibijaaW.PrintWords Go.Proofs.YtcdkopidgibijaaW.PrintMore
section
variable {P : Program} {ops : Array Oper} {s0 : St} {G : St → List Tr → Prop} {o : Oper} {rest : List Oper} {i : Nat} {l : List Tr} {n : Nat} {env : List (Nat × Den)} {box : List (Nat × TypeId × List At)}
variable {t k off : Nat} {x y : Operand} {T T2 : TypeId} {g : List Nat}
class StrT (P : Program) (T : Nat) : Prop where h : P.underlying T = some .string
theorem Run.lens {b : ByteArray} (h : Run P ops s0 G rest (i + 1) (⟨i, g ++ rdOp x, .slot t (.rs (.el (.one (.val (.int .i64 (b.size : Int))))))⟩ :: l) n ((t, .rs (.el (.one (.val (.int .i64 (b.size : Int)))))) :: env) box) (hop : o.op = .call { callee := .builtin .len, args := #[x], argTypes := #[T] } := by rfl) (hb : GOn ops env o g := by first | exact GOn.none rfl | exact GOn.some rfl rfl rfl) (hd : o.dst = some t := by rfl)
    (hx : valOf (denOf env x) = some (.string b) := by rfl) (ic : StrT P T := by infer_instance) (ht : Nat.blt t n = true := by rfl) : Run P ops s0 G (o :: rest) i l n env box :=
  Run.cons (rs := g ++ rdOp x) (step_val (s := ⟨n, env, box⟩) [x] [.string b] hd (blt ht) hb.on (fun _ h => List.mem_append_left _ (hb.rd ▸ h)) (fun z hz L hL => List.mem_append_right _ (by rwa [List.mem_singleton.1 hz] at hL)) (by simp [hx]) rfl (fun a w hu => by
    simp only [List.map_cons, List.map_nil, List.cons.injEq, and_true] at hu
    unfold execOp
    simp [hop, resolve, invoke, builtin, Builtin.len_, hu, run_underlying ic.h, goInt])) h rfl
theorem run_idx {b : ByteArray} {j : Nat} (hT : P.underlying T = some .string) (hj : j < b.size) (w : World) : (Instr.index T (.string b) (.int .i64 (j : Int))).run P w = .ok (.int .u8 (b[j]!.toNat : Int)) w := by
  have e : (if (0 : Int) ≤ (j : Int) then b[(j : Int).toNat]? else none) = some b[j]! := by
    rw [if_pos (by omega), Int.toNat_natCast]
    simp [hj]
  unfold Instr.index
  simp only [asIntOf, Sem.run_bind, Sem.run_pure, Result.andThen_ok, run_underlying hT]
  rw [e]
  rfl
theorem Run.idxs {b : ByteArray} {j : Nat} (h : Run P ops s0 G rest (i + 1) (⟨i, g ++ (rdOp x ++ rdOp y), .slot t (.rs (.el (.one (.val (.int .u8 (b[j]!.toNat : Int))))))⟩ :: l) n ((t, .rs (.el (.one (.val (.int .u8 (b[j]!.toNat : Int)))))) :: env) box) (hop : o.op = .index T x y := by rfl) (hb : GOn ops env o g := by first | exact GOn.none rfl | exact GOn.some rfl rfl rfl) (hd : o.dst = some t := by rfl)
    (hx : valOf (denOf env x) = some (.string b) := by rfl) (hy : valOf (denOf env y) = some (.int .i64 (Int.ofNat j)) := by rfl) (hj : j < b.size := by first | assumption | decide) (ic : StrT P T := by infer_instance) (ht : Nat.blt t n = true := by rfl) : Run P ops s0 G (o :: rest) i l n env box :=
  Run.cons (rs := g ++ (rdOp x ++ rdOp y)) (step_val (s := ⟨n, env, box⟩) [x, y] [.string b, .int .i64 (j : Int)] hd (blt ht) hb.on (fun _ h => List.mem_append_left _ (hb.rd ▸ h)) (by
    intro z hz L hL
    rcases List.mem_cons.1 hz with rfl | hz
    · exact List.mem_append_right _ (List.mem_append_left _ hL)
    · rw [List.mem_singleton.1 hz] at hL
      exact List.mem_append_right _ (List.mem_append_right _ hL)) (by simp [hx, hy]) rfl (fun a w hu => by
    simp only [List.map_cons, List.map_nil, List.cons.injEq, and_true] at hu
    unfold execOp
    simp only [hop, hu.1, hu.2]
    rw [Sem.run_bind, run_idx ic.h hj w]
    rfl)) h rfl
def scV : BinOp → ByteArray → ByteArray → Option Bool
  | .eql, a, b => some (a.toList == b.toList)
  | .neq, a, b => some (!(a.toList == b.toList))
  | _, _, _ => none
theorem run_sc {op : BinOp} {a b : ByteArray} {c : Bool} (h : scV op a b = some c) (w : World) : (binOp op T (.string a) (.string b)).run P w = .ok (.bool c) w := by
  cases op <;> (first | (cases h; done) | (cases h; simp [binOp, Op.stringOp]; done))
theorem Run.scmp {op : BinOp} {a b : ByteArray} {c : Bool} (h : Run P ops s0 G rest (i + 1) (⟨i, g ++ (rdOp x ++ rdOp y), .slot t (.rs (.el (.one (.val (.bool c)))))⟩ :: l) n ((t, .rs (.el (.one (.val (.bool c))))) :: env) box) (hop : o.op = .binOp op T x y T2 := by rfl) (hb : GOn ops env o g := by first | exact GOn.none rfl | exact GOn.some rfl rfl rfl) (hd : o.dst = some t := by rfl)
    (hx : valOf (denOf env x) = some (.string a) := by rfl) (hy : valOf (denOf env y) = some (.string b) := by rfl) (hc : scV op a b = some c := by rfl) (ht : Nat.blt t n = true := by rfl) : Run P ops s0 G (o :: rest) i l n env box := Run.bin_ h hop hb hd hx hy (fun w => by exact run_val (fun _ h => by cases h) (fun h => by cases h) (run_sc hc w)) rfl ht
/-- A text's part up to a place. -/
theorem Run.slH {b : ByteArray} {j : Nat} {z : Int} (h : Run P ops s0 G rest (i + 1) (⟨i, g ++ (rdOp x ++ rdOp y), .slot t (.rs (.el (.one (.val (.string (b.extract 0 j))))))⟩ :: l) n ((t, .rs (.el (.one (.val (.string (b.extract 0 j)))))) :: env) box) (hop : o.op = .slice T x none (some y) none := by rfl) (hb : GOn ops env o g := by first | exact GOn.none rfl | exact GOn.some rfl rfl rfl) (hd : o.dst = some t := by rfl)
    (hx : valOf (denOf env x) = some (.string b) := by rfl) (hy : valOf (denOf env y) = some (.int .i64 z) := by rfl) (hz : z = Int.ofNat j := by first | assumption | rfl) (hj : j ≤ b.size := by assumption) (ic : StrT P T := by infer_instance) (ht : Nat.blt t n = true := by rfl) : Run P ops s0 G (o :: rest) i l n env box :=
  Run.cons (rs := g ++ (rdOp x ++ rdOp y)) (step_val (s := ⟨n, env, box⟩) [x, y] [.string b, .int .i64 z] hd (blt ht) hb.on (fun _ h => List.mem_append_left _ (hb.rd ▸ h)) (by
    intro z hz L hL
    rcases List.mem_cons.1 hz with rfl | hz
    · exact List.mem_append_right _ (List.mem_append_left _ hL)
    · rw [List.mem_singleton.1 hz] at hL
      exact List.mem_append_right _ (List.mem_append_right _ hL)) (by simp [hx, hy]) rfl (fun a w hu => by
    simp only [List.map_cons, List.map_nil, List.cons.injEq, and_true] at hu
    unfold execOp
    simp only [hop, hu.1, hu.2, Option.map_some, Option.map_none]
    rw [Sem.run_bind, run_sliceAt_string w T _ _ _ _ ic.h, run_slice_string_h (P := P) w T b ic.h .i64 z (by rw [hz]; exact Int.natCast_nonneg j) (by rw [hz]; exact Int.ofNat_le.2 hj), hz]
    rfl)) h rfl
/-- A text's part from a place on. -/
theorem Run.slL {b : ByteArray} {j : Nat} {z : Int} (h : Run P ops s0 G rest (i + 1) (⟨i, g ++ (rdOp x ++ rdOp y), .slot t (.rs (.el (.one (.val (.string (b.extract j b.size))))))⟩ :: l) n ((t, .rs (.el (.one (.val (.string (b.extract j b.size)))))) :: env) box) (hop : o.op = .slice T x (some y) none none := by rfl) (hb : GOn ops env o g := by first | exact GOn.none rfl | exact GOn.some rfl rfl rfl) (hd : o.dst = some t := by rfl)
    (hx : valOf (denOf env x) = some (.string b) := by rfl) (hy : valOf (denOf env y) = some (.int .i64 z) := by rfl) (hz : z = Int.ofNat j := by first | assumption | rfl) (hj : j ≤ b.size := by assumption) (ic : StrT P T := by infer_instance) (ht : Nat.blt t n = true := by rfl) : Run P ops s0 G (o :: rest) i l n env box :=
  Run.cons (rs := g ++ (rdOp x ++ rdOp y)) (step_val (s := ⟨n, env, box⟩) [x, y] [.string b, .int .i64 z] hd (blt ht) hb.on (fun _ h => List.mem_append_left _ (hb.rd ▸ h)) (by
    intro z hz L hL
    rcases List.mem_cons.1 hz with rfl | hz
    · exact List.mem_append_right _ (List.mem_append_left _ hL)
    · rw [List.mem_singleton.1 hz] at hL
      exact List.mem_append_right _ (List.mem_append_right _ hL)) (by simp [hx, hy]) rfl (fun a w hu => by
    simp only [List.map_cons, List.map_nil, List.cons.injEq, and_true] at hu
    unfold execOp
    simp only [hop, hu.1, hu.2, Option.map_some, Option.map_none]
    rw [Sem.run_bind, run_sliceAt_string w T _ _ _ _ ic.h, run_slice_string_l (P := P) w T b ic.h .i64 z (by rw [hz]; exact Int.natCast_nonneg j) (by rw [hz]; exact Int.ofNat_le.2 hj), hz]
    rfl)) h rfl
end
/-- The walk by itself, with texts. -/
theorem AWp.goS {P : Program} {c : Code} {s : St} {K : Exit → St → Prop} (h : AWp P c s K := by
    repeat' (first
      | refine Run.mv ?_ | refine Run.asg ?_ | refine Run.ld3 ?_ | refine Run.ld2 ?_ | refine Run.ld1 ?_ | refine Run.call1 ?_ | refine Run.call2 ?_ | refine Run.call0 ?_ | refine Run.lens ?_ | refine Run.idxs ?_ | refine Run.slH ?_ | refine Run.slL ?_ | refine Run.scmp ?_ | refine Run.st ?_ | refine Run.icmp ?_ | refine Run.iar64 ?_ | refine Run.bcmp ?_ | refine Run.bx ?_ | refine Run.al ?_ | refine Run.ext ?_
      | refine Run.skp ?_ | refine Run.skp0 ?_ | refine Run.pckT ?_ | refine Run.pckF ?_ | refine Run.not ?_ | refine Run.bld3 ?_ | refine Run.st1 ?_ | refine Run.bx1 ?_
      | refine Run.endF ?_ | refine Run.endT ?_ | exact FinK.ret1 | exact FinK.ret2 | exact FinK.ret3 | refine K.thenN ?_ | refine K.thenR ?_ | refine K.blkN ?_ | refine K.blkR ?_ | refine K.blkX ?_ | refine K.thenX ?_ | refine K.blkY ?_ | refine K.rndX ?_ | refine K.rndR ?_
      | refine AWp.seq ?_ | refine AWp.regF ?_ | refine AWp.regT ?_ | refine AWp.ret ?_ | refine AWp.condT ?_ | refine AWp.condF ?_ | refine AWp.skip ?_ | refine AWp.block ?_ | refine AWp.exit ?_)) : AWp P c s K := h
theorem Tells.goS {P : Program} {f : FuncId} {fn : Func} {c : Code} {ds : List El} {r : Rs} (hf : P.funcs[f]? = some fn) {n : Nat} (hn : fn.ntmps = n) (hc : fn.body = some c := by rfl) (h : AWp P c ⟨n, argEnv 0 ds, []⟩ (FinK P fn r) := by exact AWp.goS)
    (hlen : Nat.ble ds.length fn.ntmps = true := by kernel_rfl) (hname : (fn.name == "runtime.NumGoroutine") = false := by kernel_rfl) : Tells P f ds r := Tells.body hf hc hlen (by rw [hn]; exact h) hname
end Go.Proofs.Ytcdkopidgibijaa.Lin
