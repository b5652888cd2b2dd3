import Derived.Test.YtcdkopidgibijaaWLast
namespace Go.Proofs.Ytcdkopidgibijaa.Clo
open Go Go.Proofs.YtcdkopidgibijaaW.PrintLast
variable {P : Program} {ops : Array Oper} {Q : Exit → Act → World → Prop}
end Go.Proofs.Ytcdkopidgibijaa.Clo
