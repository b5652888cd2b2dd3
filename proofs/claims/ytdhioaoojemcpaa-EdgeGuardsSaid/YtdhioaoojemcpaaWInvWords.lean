import Derived.Test.YtdhioaoojemcpaaWInv
import Derived.Test.YtdhioaoojemcpaaWFootNe
namespace Go.Proofs.YtdhioaoojemcpaaW.PrintWords
open Go.RowKit
end Go.Proofs.YtdhioaoojemcpaaW.PrintWords
namespace Go.Proofs.YtdhioaoojemcpaaW.PrintLast
section
variable {ops : Array Oper} {a : Act} {o og : Oper} {g : Nat} {t : Tmp} {u : Bool}
end
end Go.Proofs.YtdhioaoojemcpaaW.PrintLast
