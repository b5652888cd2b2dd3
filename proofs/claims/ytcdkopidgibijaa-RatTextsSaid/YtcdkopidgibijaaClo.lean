/- A call of a function value that captured pointers, in a region that draws its order. -/
import Derived.Test.YtcdkopidgibijaaWLast
namespace Go.Proofs.Ytcdkopidgibijaa.Clo
open Go Go.Proofs.YtcdkopidgibijaaW.PrintLast

variable {P : Program} {ops : Array Oper} {Q : Exit → Act → World → Prop}
theorem goesF_ {oi : Oper} {N : Option Tmp} {a : Act} {w : World} {K : Act → World → Prop} {f : FuncId} {fn : Func} {c : Operand} (hf : P.funcs[f]? = some fn) (hname : (fn.name == "runtime.NumGoroutine") = false) (hb : fn.body.isSome = true) (args : Array Value)
    (hw : Region.wanted oi (yielded ops a.tmps) = true) (hN : oi.dst = N) (hop : oi.op = .call { callee := .value c, args := #[], argTypes := #[] }) (hargs : a.eval c = .func (.func f) #[] args)
    (h : Calls P f args w fun e w' => ∃ v, e = .returned v ∧ K (a.put N v) w') : if Region.wanted oi (yielded ops a.tmps) = true then Oper.wp P oi a w K Q else K (a.put N undef) w := by
  refine call_ f args hw hN ?_ h
  have he := enters_ hf hname hb args w
  unfold execOp
  simp [hop, resolve, Deferred.ofValue, invoke, hargs, he]
end Go.Proofs.Ytcdkopidgibijaa.Clo
