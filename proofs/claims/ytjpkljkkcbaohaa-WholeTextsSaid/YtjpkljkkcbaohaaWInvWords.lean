import Derived.Test.YtjpkljkkcbaohaaWInv
import Derived.Test.YtjpkljkkcbaohaaWFootNe
namespace Go.Proofs.YtjpkljkkcbaohaaW.PrintWords
open Go.RowKit
end Go.Proofs.YtjpkljkkcbaohaaW.PrintWords
namespace Go.Proofs.YtjpkljkkcbaohaaW.PrintLast
section
variable {ops : Array Oper} {a : Act} {o og : Oper} {g : Nat} {t : Tmp} {u : Bool}
end
end Go.Proofs.YtjpkljkkcbaohaaW.PrintLast
