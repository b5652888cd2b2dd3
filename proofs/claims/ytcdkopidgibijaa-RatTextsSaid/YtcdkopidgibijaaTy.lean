/- The program's types, as the walk by itself asks for them. -/
import Derived.Test.YtcdkopidgibijaaRun
import Derived.Test.YtcdkopidgibijaaProg
import Derived.KernelRfl
namespace Go.Proofs.Ytcdkopidgibijaa.Lin
open Go Go.RowKit Go.Proofs.YtcdkopidgibijaaW.PrintWords
instance : Mixed Try.prog := ⟨by kernel_rfl⟩
instance : FldT Try.prog 27 0 0 := ⟨by kernel_rfl⟩
instance : FldT Try.prog 27 1 2 := ⟨by kernel_rfl⟩
instance : FldT Try.prog 25 0 0 := ⟨by kernel_rfl⟩
instance : FldT Try.prog 25 1 1 := ⟨by kernel_rfl⟩
instance : FlvT Try.prog 27 1 2 := ⟨by kernel_rfl⟩
instance : FldT Try.prog 34 0 0 := ⟨by kernel_rfl⟩
instance : FldT Try.prog 34 1 1 := ⟨by kernel_rfl⟩
instance : RowT Try.prog 27 3 := ⟨by kernel_rfl, by kernel_rfl⟩
instance : RowT Try.prog 25 2 := ⟨by kernel_rfl, by kernel_rfl⟩
instance : RowT Try.prog 34 2 := ⟨by kernel_rfl, by kernel_rfl⟩
instance : OneT Try.prog 23 := ⟨by kernel_rfl, by kernel_rfl⟩
instance : OneT Try.prog 4 := ⟨by kernel_rfl, by kernel_rfl⟩
instance : OneT Try.prog 9 := ⟨by kernel_rfl, by kernel_rfl⟩
instance : ZeroT Try.prog 27 [.bool false, .slice none 0 0, .slice none 0 0] [.val (.bool false), .row [], .row []] := ⟨by kernel_rfl, rfl⟩
instance : ZeroT Try.prog 25 [.bool false, .slice none 0 0] [.val (.bool false), .row []] := ⟨by kernel_rfl, rfl⟩
instance : ZeroT Try.prog 34 [.string ⟨#[]⟩, .string ⟨#[]⟩] [.val (.string ⟨#[]⟩), .val (.string ⟨#[]⟩)] := ⟨by kernel_rfl, rfl⟩
instance : PlcT Try.prog 27 [(0, 2), (2, 1)] := ⟨by kernel_rfl⟩
instance : PlcT Try.prog 25 [(0, 1), (1, 1)] := ⟨by kernel_rfl⟩
instance : PlcT Try.prog 34 [(0, 1), (1, 1)] := ⟨by kernel_rfl⟩
instance : SlcT Try.prog 23 89 := ⟨Try.underlying23⟩
instance : IntT Try.prog 3 .i64 := ⟨Try.underlying3⟩
instance : IntT Try.prog 58 .u64 := ⟨Try.underlying58⟩
instance : IntT Try.prog 2 .i64 := ⟨Try.underlying2⟩
instance : IntT Try.prog 89 .u32 := ⟨Try.underlying89⟩
instance : BolT Try.prog 4 := ⟨Try.underlying4⟩
end Go.Proofs.Ytcdkopidgibijaa.Lin
