import Derived.Test.YtcdkopidgibijaaWInv
import Derived.Test.YtcdkopidgibijaaWFootNe
namespace Go.Proofs.YtcdkopidgibijaaW.PrintWords
open Go.RowKit
end Go.Proofs.YtcdkopidgibijaaW.PrintWords
namespace Go.Proofs.YtcdkopidgibijaaW.PrintLast
section
variable {ops : Array Oper} {a : Act} {o og : Oper} {g : Nat} {t : Tmp} {u : Bool}
end
end Go.Proofs.YtcdkopidgibijaaW.PrintLast
