import Derived.Test.YtcdkopidgibijaaPRx71
import Derived.Test.YtcdkopidgibijaaPRg32
namespace Go.Proofs.Ytcdkopidgibijaa.Pure
open Go.RowKit Go.Proofs.Ytcdkopidgibijaa.PR Go.Proofs.YtcdkopidgibijaaW.PrintWords Go.Proofs.YtcdkopidgibijaaW.PrintLast Go.Proofs.YtcdkopidgibijaaW.PrintMore

theorem RatWhole.is_ {r : Rat} {K : Nat} (h : Qn.Sm r K) (hK1 : 1 ≤ K) (hK : K < 300000) {v : Bool} {A B : Nat → Option Bool} (k : Ev A v) : Ev (fun k => (offcutlaw03_Is.f k (Qn.qd r).1 (Qn.qd r).2.1 (Qn.qd r).2.2 (Zn.tz r.num) (Dec.dec r.den)).bind fun t => if t = true then A k else B k) v := by
  have := offcutlaw03_Is.ev (s := r) h hK1 hK
  rw [decide_eq_true rfl] at this
  exact Ev.bind this (Dec.yes rfl k)
theorem RatWhole.inv_ {b : Rat} {K : Nat} (h : Qn.Sm b K) (h0 : b ≠ 0) : Qn.Sm b⁻¹ K := by
  have hn : b.num ≠ 0 := fun e => h0 (Rat.num_eq_zero.1 e)
  refine ⟨?_, ?_⟩
  · rw [Rat.num_inv, Int.natAbs_mul]
    have h1 := Zn.sign_range b.num
    have h2 := h.den
    have : b.num.sign.natAbs ≤ 1 := by omega
    rw [Int.natAbs_natCast]
    exact Nat.lt_of_le_of_lt (Nat.le_trans (Nat.mul_le_mul_right _ this) (by omega)) h2
  · rw [Rat.den_inv, if_neg hn]
    exact h.num
theorem RatWhole.nil_ : Ev (fun k => rat_Sign.f k false [] []) 0 := by
  have h := rat_Sign.ev (Qn.Is.of (m := false) (K := 1) Num.Ws.nil Num.Ws.nil (Nat.zero_le _) (Nat.zero_le _)) (by omega)
  have e : (mkRat (Zn.zv false (Num.nv [])) (Qn.dn (Num.nv []))).num.sign = 0 := by
    show (mkRat 0 1).num.sign = 0
    rfl
  rwa [e] at h
theorem RatWhole (n d : Int) (hn : (Lit.int .i64 n).wf = true) (hd : (Lit.int .i64 d).wf = true) : ∃ k, offcutlaw03_RatWhole.f k n d = some true := by
  have bn : -9223372036854775808 ≤ n ∧ n < 9223372036854775808 := by
    simp [Lit.wf, IntKind.min, IntKind.max, IntKind.signed, IntKind.bits] at hn
    omega
  have bd : -9223372036854775808 ≤ d ∧ d < 9223372036854775808 := by
    simp [Lit.wf, IntKind.min, IntKind.max, IntKind.signed, IntKind.bits] at hd
    omega
  clear hn hd
  refine Ev.rounds ?_
  have A := offcutlaw03_awake.ev
  have sn := rat_Of.sm bn.1 bn.2
  have sd := rat_Of.sm bd.1 bd.2
  have Tn := whole_Text.ev (Zn.Is.zd (z := n) (K := 2) (by omega)) (by omega)
  have Td := whole_Text.ev (Zn.Is.zd (z := d) (K := 2) (by omega)) (by omega)
  have On := whole_Of.ev n bn.1 bn.2
  have Od := whole_Of.ev d bd.1 bd.2
  have o1 : Dec.dec 1 = (⟨#[49]⟩ : ByteArray) := Dec.dec_one
  have head : ∀ {v : Bool} {X Y : Nat → Option Bool}, Ev X v → Ev (fun k => (offcutlaw03_Is.f k (Qn.qd (n : Rat)).1 (Qn.qd (n : Rat)).2.1 (Qn.qd (n : Rat)).2.2 (Zn.tz n) (⟨#[49]⟩ : ByteArray)).bind fun t => if t = true then X k else Y k) v := by
    intro v X Y k
    have := RatWhole.is_ (B := Y) sn (by omega) (by omega) k
    rw [← o1]
    exact this
  unfold offcutlaw03_RatWhole.f
  by_cases h0 : d = 0
  · subst h0
    exact Ev.bind (rat_Of.ev0 bn.1 bn.2) (Ev.bind (rat_Int.ev n bn.1 bn.2) (Ev.bind On (Ev.bind Tn (head (Dec.yes rfl (Dec.yes rfl (Ev.bind RatWhole.nil_ (Dec.yes rfl (Dec.end_ A)))))))))
  · have d0 : (d : Rat) ≠ 0 := fun e => h0 (Rat.intCast_eq_zero_iff.1 e)
    have L := offcutref03_Low.ev (p := n) (q := 1) (K := 2) (by omega) (by decide) (by decide) (by omega) (by omega)
    rw [Qn.mk_one, o1] at L
    have T := offcutref03_Turned.sem sd (by omega) d0
    have T' : offcutref03_Turned.f (Zn.tz d) (⟨#[49]⟩ : ByteArray) = some (Zn.tz ((d : Rat)⁻¹).num, Dec.dec ((d : Rat)⁻¹).den) := by
      rw [← o1]
      exact T
    have M := offcutref03_Mul.ev sn (RatWhole.inv_ sd d0) (by omega) (by omega)
    rw [← Rat.div_def] at M
    have sq : Qn.Sm ((n : Rat) / (d : Rat)) (2 + 2) := by
      rw [Rat.div_def]
      exact sn.mul (RatWhole.inv_ sd d0)
    refine Ev.bind (rat_Of.ev bn.1 bn.2 bd.1 bd.2 h0) (Ev.bind (rat_Int.ev n bn.1 bn.2) (Ev.bind On (Ev.bind Tn (head (Dec.no h0 (Ev.bind On (Ev.bind Tn (Ev.bind L (Ev.bind Od (Ev.bind Td (Dec.val (fun _ => T') (Ev.bind M ?_))))))))))))
    exact RatWhole.is_ sq (by omega) (by omega) (Dec.yes rfl (Dec.end_ A))

end Go.Proofs.Ytcdkopidgibijaa.Pure
