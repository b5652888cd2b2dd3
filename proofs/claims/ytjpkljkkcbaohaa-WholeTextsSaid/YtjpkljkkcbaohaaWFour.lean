import Derived.Test.YtjpkljkkcbaohaaWTab
namespace Go.Proofs.YtjpkljkkcbaohaaW.PrintLast
section
variable {P : Program} {ops : Array Oper} {Q : Exit → Act → World → Prop} {md : Region.Mode} {S : World → Prop} {ds : List Nat} {T : Bool × List (List Nat × List Nat)}
end
end Go.Proofs.YtjpkljkkcbaohaaW.PrintLast
