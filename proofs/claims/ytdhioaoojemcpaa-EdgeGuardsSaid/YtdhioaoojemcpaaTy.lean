/- The program's types, as the walk by itself asks for them. -/
import Derived.Test.YtdhioaoojemcpaaRun
import Derived.Test.YtdhioaoojemcpaaProg
import Derived.KernelRfl
namespace Go.Proofs.Ytdhioaoojemcpaa.Lin
open Go Go.RowKit Go.Proofs.YtdhioaoojemcpaaW.PrintWords
instance : Mixed Try.prog := ⟨by kernel_rfl⟩
instance : FldT Try.prog 34 0 0 := ⟨by kernel_rfl⟩
instance : FldT Try.prog 34 1 2 := ⟨by kernel_rfl⟩
instance : FldT Try.prog 32 0 0 := ⟨by kernel_rfl⟩
instance : FldT Try.prog 32 1 1 := ⟨by kernel_rfl⟩
instance : FlvT Try.prog 34 1 2 := ⟨by kernel_rfl⟩
instance : FldT Try.prog 43 0 0 := ⟨by kernel_rfl⟩
instance : FldT Try.prog 43 1 1 := ⟨by kernel_rfl⟩
instance : RowT Try.prog 34 3 := ⟨by kernel_rfl, by kernel_rfl⟩
instance : RowT Try.prog 32 2 := ⟨by kernel_rfl, by kernel_rfl⟩
instance : RowT Try.prog 43 2 := ⟨by kernel_rfl, by kernel_rfl⟩
instance : OneT Try.prog 30 := ⟨by kernel_rfl, by kernel_rfl⟩
instance : OneT Try.prog 4 := ⟨by kernel_rfl, by kernel_rfl⟩
instance : OneT Try.prog 9 := ⟨by kernel_rfl, by kernel_rfl⟩
instance : ZeroT Try.prog 34 [.bool false, .slice none 0 0, .slice none 0 0] [.val (.bool false), .row [], .row []] := ⟨by kernel_rfl, rfl⟩
instance : ZeroT Try.prog 32 [.bool false, .slice none 0 0] [.val (.bool false), .row []] := ⟨by kernel_rfl, rfl⟩
instance : ZeroT Try.prog 43 [.string ⟨#[]⟩, .string ⟨#[]⟩] [.val (.string ⟨#[]⟩), .val (.string ⟨#[]⟩)] := ⟨by kernel_rfl, rfl⟩
instance : PlcT Try.prog 34 [(0, 2), (2, 1)] := ⟨by kernel_rfl⟩
instance : PlcT Try.prog 32 [(0, 1), (1, 1)] := ⟨by kernel_rfl⟩
instance : PlcT Try.prog 43 [(0, 1), (1, 1)] := ⟨by kernel_rfl⟩
instance : SlcT Try.prog 30 92 := ⟨Try.underlying30⟩
instance : IntT Try.prog 3 .i64 := ⟨Try.underlying3⟩
instance : IntT Try.prog 22 .u64 := ⟨Try.underlying22⟩
instance : IntT Try.prog 2 .i64 := ⟨Try.underlying2⟩
instance : IntT Try.prog 92 .u32 := ⟨Try.underlying92⟩
instance : BolT Try.prog 4 := ⟨Try.underlying4⟩
end Go.Proofs.Ytdhioaoojemcpaa.Lin
