/- The functions on floating-point numbers, walked. -/
import Derived.Test.YtdhioaoojemcpaaFlr
import Derived.Test.YtdhioaoojemcpaaTy
import Derived.Test.YtdhioaoojemcpaaProg
import Derived.KernelRfl
namespace Go.Proofs.Ytdhioaoojemcpaa.Lin
open Go Go.RowKit Go.Proofs.YtdhioaoojemcpaaW.PrintWords Go.Proofs.Ytdhioaoojemcpaa.Flo
instance : FloT Try.prog 24 := ⟨by rw [Try.underlying24]; rfl⟩
def fv (b : Nat) : El := .one (.val (.float .f64 b))
def iv (k : IntKind) (n : Int) : El := .one (.val (.int k n))
def bv (b : Bool) : El := .one (.val (.bool b))
instance fromBits_t {n : Int} : Tl Try.prog 12 [.one (.val (.int .u64 n))] (.el (.one (.val (.float .f64 n.toNat)))) := ⟨Tells.ext (e := Extern.MathFloatBits.float64frombits) Try.func12 (by kernel_rfl) (by kernel_rfl) (by kernel_rfl) (by kernel_rfl) (fun out w vs hl hv => by
  obtain ⟨u, rfl, h⟩ := args1 hl hv
  obtain ⟨rfl, _⟩ := h
  exact ⟨_, rfl, rfl, rfl⟩)⟩
instance bits_t {b : Nat} : Tl Try.prog 31 [.one (.val (.float .f64 b))] (.el (.one (.val (.int .u64 b)))) := ⟨Tells.ext (e := Extern.MathFloatBits.float64bits) Try.func31 (by kernel_rfl) (by kernel_rfl) (by kernel_rfl) (by kernel_rfl) (fun out w vs hl hv => by
  obtain ⟨u, rfl, h⟩ := args1 hl hv
  obtain ⟨rfl, _⟩ := h
  exact ⟨_, rfl, rfl, rfl⟩)⟩
instance signbit_t {b : Nat} : Tl Try.prog 35 [.one (.val (.float .f64 b))] (.el (.one (.val (.bool (decide (wrap64 (b : Int) < 0)))))) := ⟨Tells.goF Try.func35 Try.ntmps35⟩
def absR (b : Nat) : Nat := (bits .andNot .u64 (b : Int) 9223372036854775808).toNat
instance abs_t {b : Nat} : Tl Try.prog 39 [.one (.val (.float .f64 b))] (.el (.one (.val (.float .f64 (absR b))))) := ⟨Tells.goF Try.func39 Try.ntmps39⟩
instance isNaN_t {b : Nat} : Tl Try.prog 56 [.one (.val (.float .f64 b))] (.el (.one (.val (.bool (Ieee.double.order b b != some .eq))))) := ⟨Tells.goF Try.func56 Try.ntmps56⟩
def infR (b : Nat) : Bool := Ieee.double.order b 9218868437227405311 == some .gt
instance isInf0_t {b : Nat} : Tl Try.prog 34 [.one (.val (.float .f64 b)), .one (.val (.int .i64 0))] (.el (.one (.val (.bool (infR (absR b)))))) := ⟨Tells.goF Try.func34 Try.ntmps34⟩
instance isInf1_t {b : Nat} : Tl Try.prog 34 [.one (.val (.float .f64 b)), .one (.val (.int .i64 1))] (.el (.one (.val (.bool (infR b))))) := ⟨Tells.goF Try.func34 Try.ntmps34⟩
instance isInfm_t {b : Nat} : Tl Try.prog 34 [.one (.val (.float .f64 b)), .one (.val (.int .i64 (-1)))] (.el (.one (.val (.bool (infR (b ^^^ 9223372036854775808)))))) := ⟨Tells.goF Try.func34 Try.ntmps34⟩
instance inf1_t : Tl Try.prog 85 [.one (.val (.int .i64 1))] (.el (.one (.val (.float .f64 9218868437227405312)))) := ⟨Tells.conv (Tells.goF Try.func85 Try.ntmps85) rfl⟩
def kindR (b : Nat) : Int := if Ieee.double.order b b != some .eq then 5 else if infR b then 3 else if infR (b ^^^ 9223372036854775808) then 4 else if Ieee.double.order b 0 != some .eq then 2 else if decide (wrap64 (b : Int) < 0) then 1 else 0
instance kind_t {b : Nat} : Tl Try.prog 11 [.one (.val (.float .f64 b))] (.el (.one (.val (.int .i64 (kindR b))))) := by
  unfold kindR
  split
  · exact ⟨Tells.goF Try.func11 Try.ntmps11⟩
  split
  · exact ⟨Tells.goF Try.func11 Try.ntmps11⟩
  split
  · exact ⟨Tells.goF Try.func11 Try.ntmps11⟩
  split
  · exact ⟨Tells.goF Try.func11 Try.ntmps11⟩
  split
  · exact ⟨Tells.goF Try.func11 Try.ntmps11⟩
  · exact ⟨Tells.goF Try.func11 Try.ntmps11⟩
theorem norm_sub {b c : Nat} (h1 : (Ieee.double.order (absR b) 4503599627370496 == some .lt) = true) (h2 : Ieee.double.mul b 4841369599423283200 = some c) : Tl Try.prog 95 [.one (.val (.float .f64 b))] (.tup [.one (.val (.float .f64 c)), .one (.val (.int .i64 (-52)))]) := ⟨Tells.goF Try.func95 Try.ntmps95⟩
theorem norm_nrm {b : Nat} (h1 : (Ieee.double.order (absR b) 4503599627370496 == some .lt) = false) : Tl Try.prog 95 [.one (.val (.float .f64 b))] (.tup [.one (.val (.float .f64 b)), .one (.val (.int .i64 0))]) := ⟨Tells.goF Try.func95 Try.ntmps95⟩
def frR (c : Nat) : Nat := (bits .or .u64 (bits .andNot .u64 (c : Int) 9218868437227405312) 4602678819172646912).toNat
def exR (c : Nat) (e : Int) : Int := wrap64 (e + wrap64 (wrap64 (wrap64 (bits .and .u64 ((c : Int) / 2 ^ 52) 2047) - 1023) + 1))
theorem frexp1_t {b c : Nat} {e : Int} (h0 : (Ieee.double.order b 0 == some .eq) = false) (h1 : infR (absR b) = false) (h2 : (Ieee.double.order b b != some .eq) = false) (hn : Tl Try.prog 95 [.one (.val (.float .f64 b))] (.tup [.one (.val (.float .f64 c)), .one (.val (.int .i64 e))])) : Tl Try.prog 70 [.one (.val (.float .f64 b))] (.tup [.one (.val (.float .f64 (frR c))), .one (.val (.int .i64 (exR c e)))]) := ⟨Tells.goF Try.func70 Try.ntmps70⟩
theorem frexp_t {b c : Nat} {e : Int} (h : Tl Try.prog 70 [.one (.val (.float .f64 b))] (.tup [.one (.val (.float .f64 c)), .one (.val (.int .i64 e))])) : Tl Try.prog 38 [.one (.val (.float .f64 b))] (.tup [.one (.val (.float .f64 c)), .one (.val (.int .i64 e))]) := ⟨Tells.goF Try.func38 Try.ntmps38⟩
theorem frexp0_t {b : Nat} (h0 : (Ieee.double.order b 0 == some .eq) = true) : Tl Try.prog 70 [.one (.val (.float .f64 b))] (.tup [.one (.val (.float .f64 b)), .one (.val (.int .i64 0))]) := ⟨Tells.goF Try.func70 Try.ntmps70⟩
theorem ldexp0_t {b : Nat} {e : Int} (h0 : (Ieee.double.order b 0 == some .eq) = true) : Tl Try.prog 73 [.one (.val (.float .f64 b)), .one (.val (.int .i64 e))] (.el (.one (.val (.float .f64 b)))) := ⟨Tells.goF Try.func73 Try.ntmps73⟩
def leR (c : Nat) (e e0 : Int) : Int := wrap64 (wrap64 (e + e0) + wrap64 (bits .and .i64 (wrap64 ((c : Int) / 2 ^ 52)) 2047 - 1023))
def lbR (c : Nat) (e : Int) : Nat := (bits .or .u64 (bits .andNot .u64 (c : Int) 9218868437227405312) (IntKind.u64.wrap (IntKind.u64.wrap (wrap64 (e + 1023)) * 2 ^ 52))).toNat
theorem ldexp1_t {b c r : Nat} {e e0 : Int} (h0 : (Ieee.double.order b 0 == some .eq) = false) (h1 : infR (absR b) = false) (h2 : (Ieee.double.order b b != some .eq) = false) (hn : Tl Try.prog 95 [.one (.val (.float .f64 b))] (.tup [.one (.val (.float .f64 c)), .one (.val (.int .i64 e0))]))
    (h3 : decide (leR c e e0 < -1075) = false) (h4 : decide (leR c e e0 > 1023) = false) (h5 : decide (leR c e e0 < -1022) = false) (h6 : Ieee.double.mul 4607182418800017408 (lbR c (leR c e e0)) = some r) : Tl Try.prog 73 [.one (.val (.float .f64 b)), .one (.val (.int .i64 e))] (.el (.one (.val (.float .f64 r)))) := by
  unfold lbR leR at h6
  unfold leR at h3 h4 h5
  exact ⟨Tells.goF Try.func73 Try.ntmps73⟩
theorem ldexp_t {b c : Nat} {e : Int} (h : Tl Try.prog 73 [.one (.val (.float .f64 b)), .one (.val (.int .i64 e))] (.el (.one (.val (.float .f64 c))))) : Tl Try.prog 41 [.one (.val (.float .f64 b)), .one (.val (.int .i64 e))] (.el (.one (.val (.float .f64 c)))) := ⟨Tells.goF Try.func41 Try.ntmps41⟩
end Go.Proofs.Ytdhioaoojemcpaa.Lin
