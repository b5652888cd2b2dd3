/- The numbers that rows of 32 bits each stand for, in plain Lean: no program in sight. -/
namespace Go.Proofs.Ytcdkopidgibijaa.Num

/-- The number of a row, the lowest word first. -/
def nv : List Int → Nat
  | [] => 0
  | x :: l => x.toNat + 4294967296 * nv l

/-- A number's own row: no nought at its end. -/
def nd (n : Nat) : List Int := if _h : n = 0 then [] else ((n % 4294967296 : Nat) : Int) :: nd (n / 4294967296)
termination_by n
decreasing_by omega

/-- Each word is one of 32 bits. -/
def Ws (l : List Int) : Prop := ∀ x ∈ l, 0 ≤ x ∧ x < 4294967296
def okw (l : List Int) : Bool := decide (l.length < 1099511627776) && l.all (fun x => decide (0 ≤ x) && decide (x < 4294967296))

theorem okw_iff (l : List Int) : okw l = true ↔ l.length < 1099511627776 ∧ Ws l := by
  simp [okw, Ws, List.all_eq_true]

theorem Ws.nil : Ws [] := fun _ h => by simp at h
theorem Ws.cons {x : Int} {l : List Int} (h0 : 0 ≤ x) (h1 : x < 4294967296) (h : Ws l) : Ws (x :: l) := by
  intro y hy
  rcases List.mem_cons.1 hy with rfl | hy
  · exact ⟨h0, h1⟩
  · exact h y hy
theorem Ws.head {x : Int} {l : List Int} (h : Ws (x :: l)) : 0 ≤ x ∧ x < 4294967296 := h x (by simp)
theorem Ws.tail {x : Int} {l : List Int} (h : Ws (x :: l)) : Ws l := fun y hy => h y (by simp [hy])
theorem Ws.append {a b : List Int} (h : Ws a) (k : Ws b) : Ws (a ++ b) := fun x hx => (List.mem_append.1 hx).elim (h x) (k x)
theorem Ws.take {a : List Int} (h : Ws a) (n : Nat) : Ws (a.take n) := fun x hx => h x (List.mem_of_mem_take hx)
theorem Ws.drop {a : List Int} (h : Ws a) (n : Nat) : Ws (a.drop n) := fun x hx => h x (List.mem_of_mem_drop hx)
theorem Ws.getD {a : List Int} (h : Ws a) (n : Nat) : 0 ≤ a.getD n 0 ∧ a.getD n 0 < 4294967296 := by
  rw [List.getD_eq_getElem?_getD]
  rcases Nat.lt_or_ge n a.length with hn | hn
  · rw [List.getElem?_eq_getElem hn]; exact h _ (List.getElem_mem hn)
  · rw [List.getElem?_eq_none hn]; simp
theorem Ws.set {a : List Int} (h : Ws a) (n : Nat) {x : Int} (h0 : 0 ≤ x) (h1 : x < 4294967296) : Ws (a.set n x) := by
  intro y hy
  rcases List.mem_or_eq_of_mem_set hy with hy | rfl
  · exact h y hy
  · exact ⟨h0, h1⟩
theorem Ws.replicate (n : Nat) : Ws (List.replicate n 0) := by
  intro x hx
  rw [List.eq_of_mem_replicate hx]
  omega

theorem nd_zero : nd 0 = [] := by rw [nd]; simp
theorem nd_pos {n : Nat} (h : n ≠ 0) : nd n = ((n % 4294967296 : Nat) : Int) :: nd (n / 4294967296) := by rw [nd]; simp [h]

theorem nv_nd (n : Nat) : nv (nd n) = n := by
  induction n using Nat.strongRecOn with
  | _ n ih =>
    by_cases h : n = 0
    · subst h; rw [nd_zero]; rfl
    · rw [nd_pos h]
      simp only [nv, Int.toNat_natCast]
      rw [ih (n / 4294967296) (by omega)]
      omega

theorem Ws_nd (n : Nat) : Ws (nd n) := by
  induction n using Nat.strongRecOn with
  | _ n ih =>
    by_cases h : n = 0
    · subst h; rw [nd_zero]; exact Ws.nil
    · rw [nd_pos h]
      exact Ws.cons (by omega) (by omega) (ih _ (by omega))

theorem nd_eq_nil {n : Nat} : nd n = [] ↔ n = 0 := by
  constructor
  · intro h
    have := nv_nd n
    rw [h] at this
    exact this.symm
  · rintro rfl; exact nd_zero

theorem nv_append (a b : List Int) : nv (a ++ b) = nv a + 2 ^ (32 * a.length) * nv b := by
  induction a with
  | nil => simp [nv]
  | cons x a ih =>
    simp only [List.cons_append, nv, ih, List.length_cons]
    rw [show 32 * (a.length + 1) = 32 * a.length + 32 from by omega, Nat.pow_add]
    rw [show (2:Nat) ^ 32 = 4294967296 from rfl, Nat.mul_add, Nat.mul_comm (2 ^ (32 * a.length)) 4294967296, Nat.mul_assoc]
    omega

theorem nv_replicate (n : Nat) : nv (List.replicate n 0) = 0 := by
  induction n with
  | zero => rfl
  | succ n ih => rw [List.replicate_succ]; simp [nv, ih]

theorem nv_lt {l : List Int} (h : Ws l) : nv l < 2 ^ (32 * l.length) := by
  induction l with
  | nil => simp [nv]
  | cons x l ih =>
    have hx := h.head
    have hi := ih h.tail
    simp only [nv, List.length_cons]
    rw [show 32 * (l.length + 1) = 32 * l.length + 32 from by omega, Nat.pow_add, show (2:Nat) ^ 32 = 4294967296 from rfl]
    generalize 2 ^ (32 * l.length) = P at hi ⊢
    have : 4294967296 * nv l + 4294967296 ≤ P * 4294967296 := by
      have := Nat.mul_le_mul_left 4294967296 (show nv l + 1 ≤ P from hi)
      omega
    omega

theorem nd_length_le {n k : Nat} (h : n < 2 ^ (32 * k)) : (nd n).length ≤ k := by
  induction k generalizing n with
  | zero => have : n = 0 := by simpa using h
            subst this; rw [nd_zero]; simp
  | succ k ih =>
    by_cases hn : n = 0
    · subst hn; rw [nd_zero]; simp
    · rw [nd_pos hn, List.length_cons]
      have : n / 4294967296 < 2 ^ (32 * k) := by
        rw [Nat.div_lt_iff_lt_mul (by omega)]
        rw [show 32 * (k + 1) = 32 * k + 32 from by omega, Nat.pow_add] at h
        exact h
      have := ih this
      omega

/-- No nought at the end: the number's own row. -/
theorem nd_nv {l : List Int} (h : Ws l) (hl : l = [] ∨ l.getD (l.length - 1) 0 ≠ 0) : nd (nv l) = l := by
  induction l with
  | nil => exact nd_zero
  | cons x l ih =>
    have hx := h.head
    have hi := ih h.tail
    by_cases hl0 : l = []
    · subst hl0
      have hx0 : x ≠ 0 := by
        rcases hl with hl | hl
        · cases hl
        · simpa using hl
      simp only [nv]
      rw [nd_pos (by omega), show (x.toNat + 4294967296 * 0) / 4294967296 = 0 from by omega, nd_zero]
      congr 1
      omega
    · have hn : nd (nv l) = l := hi (.inr (by
        rcases hl with hl | hl
        · cases hl
        · obtain ⟨y, l', rfl⟩ := List.exists_cons_of_ne_nil hl0
          simpa using hl))
      have hp : nv l ≠ 0 := fun e => hl0 (by rw [← hn, e, nd_zero])
      simp only [nv]
      rw [nd_pos (by omega), show (x.toNat + 4294967296 * nv l) / 4294967296 = nv l from by omega, hn]
      congr 1
      omega

theorem nd_last {n : Nat} (h : n ≠ 0) : (nd n).getD ((nd n).length - 1) 0 ≠ 0 := by
  induction n using Nat.strongRecOn with
  | _ n ih =>
    rw [nd_pos h]
    by_cases hq : n / 4294967296 = 0
    · rw [hq, nd_zero]
      simp
      omega
    · have := ih _ (by omega) hq
      have hne : nd (n / 4294967296) ≠ [] := fun e => hq (nd_eq_nil.1 e)
      obtain ⟨y, l', e⟩ := List.exists_cons_of_ne_nil hne
      rw [e] at this ⊢
      simpa using this

theorem nd_len_mono {n m : Nat} (h : n ≤ m) : (nd n).length ≤ (nd m).length := by
  apply nd_length_le
  have := nv_lt (Ws_nd m)
  rw [nv_nd] at this
  omega

theorem nv_split (l : List Int) (i : Nat) (h : i < l.length) : nv l = nv (l.take i) + 2 ^ (32 * i) * ((l.getD i 0).toNat + 4294967296 * nv (l.drop (i + 1))) := by
  have e : l = l.take i ++ (l.getD i 0 :: l.drop (i + 1)) := by
    rw [List.getD_eq_getElem?_getD, List.getElem?_eq_getElem h]
    simp
  have hl : (l.take i).length = i := by rw [List.length_take]; omega
  calc nv l = nv (l.take i ++ (l.getD i 0 :: l.drop (i + 1))) := by rw [← e]
    _ = _ := by rw [nv_append, hl]; rfl

theorem nv_take_lt {l : List Int} (h : Ws l) (i : Nat) (hi : i ≤ l.length) : nv (l.take i) < 2 ^ (32 * i) := by
  have := nv_lt (h.take i)
  rw [List.length_take, Nat.min_eq_left hi] at this
  exact this

/-- Of two rows of one length, the same from place i + 1 on, the one with the lesser word at i is the lesser number. -/
theorem nv_lt_of_at {a b : List Int} (ha : Ws a) (hb : Ws b) (i : Nat) (hia : i < a.length) (hib : i < b.length) (hd : a.drop (i + 1) = b.drop (i + 1)) (hx : a.getD i 0 < b.getD i 0) : nv a < nv b := by
  rw [nv_split a i hia, nv_split b i hib, hd]
  have h1 := nv_take_lt ha i (by omega)
  have h2 := ha.getD i
  have h3 := hb.getD i
  generalize 2 ^ (32 * i) = P at h1 ⊢
  generalize nv (b.drop (i + 1)) = r
  have : P * ((a.getD i 0).toNat + 4294967296 * r + 1) ≤ P * ((b.getD i 0).toNat + 4294967296 * r) := Nat.mul_le_mul_left P (by omega)
  rw [Nat.mul_add P _ 1] at this
  omega

theorem nv_take_succ (l : List Int) (i : Nat) : nv (l.take (i + 1)) = nv (l.take i) + 2 ^ (32 * i) * (l.getD i 0).toNat := by
  rcases Nat.lt_or_ge i l.length with h | h
  · have := nv_split (l.take (i + 1)) i (by rw [List.length_take]; omega)
    rw [List.take_take, Nat.min_eq_left (by omega), List.drop_of_length_le (by rw [List.length_take]; omega)] at this
    rw [this]
    simp [nv, List.getElem?_take]
  · rw [List.take_of_length_le (by omega), List.take_of_length_le h, List.getD_eq_getElem?_getD, List.getElem?_eq_none h]
    simp

theorem nv_set_take {l : List Int} {i : Nat} (h : i < l.length) (v : Int) : nv ((l.set i v).take (i + 1)) = nv (l.take i) + 2 ^ (32 * i) * v.toNat := by
  rw [nv_take_succ]
  congr 2
  · rw [List.take_set_of_le (by omega)]
  · simp [List.getElem?_set, h]

theorem nv_set {l : List Int} {i : Nat} (h : i < l.length) (v : Int) : nv (l.set i v) + 2 ^ (32 * i) * (l.getD i 0).toNat = nv l + 2 ^ (32 * i) * v.toNat := by
  have h1 := nv_split l i h
  have h2 := nv_split (l.set i v) i (by rw [List.length_set]; exact h)
  rw [List.take_set_of_le (Nat.le_refl _), List.drop_set_of_lt (by omega)] at h2
  have h3 : (l.set i v).getD i 0 = v := by simp [List.getElem?_set, h]
  rw [h3] at h2
  rw [h1, h2, Nat.mul_add, Nat.mul_add]
  omega

/-- A number below 2^(32 j) times R: its word at j is below R, and beyond there are noughts. -/
theorem nv_top {l : List Int} {j R : Nat} (hR : R ≤ 4294967296) (hj : j < l.length) (h : nv l < 2 ^ (32 * j) * R) : (l.getD j 0).toNat < R ∧ nv (l.drop (j + 1)) = 0 := by
  have h1 := nv_split l j hj
  rw [h1] at h
  have hlt : (l.getD j 0).toNat + 4294967296 * nv (l.drop (j + 1)) < R := by
    have : 2 ^ (32 * j) * ((l.getD j 0).toNat + 4294967296 * nv (l.drop (j + 1))) < 2 ^ (32 * j) * R := by omega
    exact Nat.lt_of_mul_lt_mul_left this
  omega

theorem nv_zero_getD {l : List Int} (hW : Ws l) (h : nv l = 0) (j : Nat) : l.getD j 0 = 0 := by
  rcases Nat.lt_or_ge j l.length with h1 | h1
  · have h2 := nv_split l j h1
    have h3 := hW.getD j
    rw [h] at h2
    have hp : 0 < 2 ^ (32 * j) := Nat.two_pow_pos _
    have : 2 ^ (32 * j) * ((l.getD j 0).toNat + 4294967296 * nv (l.drop (j + 1))) = 0 := by omega
    rcases Nat.mul_eq_zero.1 this with h4 | h4 <;> omega
  · rw [List.getD_eq_getElem?_getD, List.getElem?_eq_none h1]; rfl

/-- Words beyond the number's size are noughts. -/
theorem nv_take_of_lt {l : List Int} {n : Nat} (h : nv l < 2 ^ (32 * n)) : nv (l.take n) = nv l := by
  rcases Nat.lt_or_ge n l.length with h1 | h1
  · have e : nv l = nv (l.take n) + 2 ^ (32 * n) * nv (l.drop n) := by
      conv => lhs; rw [← List.take_append_drop n l]
      rw [nv_append, List.length_take, Nat.min_eq_left (by omega)]
    rcases Nat.eq_zero_or_pos (nv (l.drop n)) with h0 | h0
    · rw [h0] at e; omega
    · have := Nat.mul_le_mul_left (2 ^ (32 * n)) h0
      omega
  · rw [List.take_of_length_le h1]

theorem pow_succ32 (i : Nat) : 2 ^ (32 * (i + 1)) = 2 ^ (32 * i) * 4294967296 := by
  rw [show 32 * (i + 1) = 32 * i + 32 from by omega, Nat.pow_add]

theorem split_mul (P s : Nat) : P * (s % 4294967296) + P * 4294967296 * (s / 4294967296) = P * s := by
  rw [Nat.mul_assoc, ← Nat.mul_add, Nat.mod_add_div]

/-- Of rows that DivMod takes: half as long. -/
def okd (l : List Int) : Bool := okw l && decide (l.length < 549755813888)
theorem okd_iff (l : List Int) : okd l = true ↔ l.length < 549755813888 ∧ Ws l := by
  simp only [okd, Bool.and_eq_true, okw_iff, decide_eq_true_eq]
  constructor
  · rintro ⟨⟨_, h⟩, h1⟩; exact ⟨h1, h⟩
  · rintro ⟨h1, h⟩; exact ⟨⟨by omega, h⟩, h1⟩
theorem okw_of {l : List Int} (h : l.length < 1099511627776) (hW : Ws l) : okw l = true := (okw_iff l).2 ⟨h, hW⟩
theorem okd_okw {l : List Int} (h : okd l = true) : okw l = true := by
  obtain ⟨h1, h2⟩ := (okd_iff l).1 h
  exact okw_of (by omega) h2

/-- -1, 0, 1. -/
def cmp (n m : Nat) : Int := if n < m then -1 else if n = m then 0 else 1

theorem cmp_lt {n m : Nat} (h : n < m) : cmp n m = -1 := by unfold cmp; rw [if_pos h]
theorem cmp_eq {n m : Nat} (h : n = m) : cmp n m = 0 := by unfold cmp; rw [if_neg (by omega), if_pos h]
theorem cmp_gt {n m : Nat} (h : m < n) : cmp n m = 1 := by unfold cmp; rw [if_neg (by omega), if_neg (by omega)]
theorem lt_of_len {n m : Nat} (h : (nd n).length < (nd m).length) : n < m := by
  rcases Nat.lt_or_ge n m with h1 | h1
  · exact h1
  · have := nd_len_mono h1
    omega
theorem okw_nd_length {l : List Int} (h : okw l = true) : (nd (nv l)).length < 1099511627776 := by
  obtain ⟨h1, h2⟩ := (okw_iff l).1 h
  have := nd_length_le (nv_lt h2)
  omega

/-- How many binary digits. -/
def blen (n : Nat) : Nat := if _h : n = 0 then 0 else blen (n / 2) + 1
termination_by n
decreasing_by omega

theorem blen_zero : blen 0 = 0 := by rw [blen]; simp
theorem blen_pos {n : Nat} (h : n ≠ 0) : blen n = blen (n / 2) + 1 := by rw [blen]; simp [h]
theorem blen_lt (n : Nat) : n < 2 ^ blen n := by
  induction n using Nat.strongRecOn with
  | _ n ih =>
    by_cases h : n = 0
    · subst h; rw [blen_zero]; decide
    · rw [blen_pos h, Nat.pow_succ]
      have := ih (n / 2) (by omega)
      omega
theorem blen_le {n : Nat} (h : n ≠ 0) : 2 ^ (blen n - 1) ≤ n := by
  induction n using Nat.strongRecOn with
  | _ n ih =>
    rw [blen_pos h, Nat.add_sub_cancel]
    by_cases h2 : n / 2 = 0
    · rw [h2, blen_zero]; simp; omega
    · have := ih (n / 2) (by omega) h2
      rw [blen_pos h2] at this ⊢
      rw [Nat.add_sub_cancel] at this
      rw [Nat.pow_succ]
      omega
theorem blen_eq {n k : Nat} (h0 : 2 ^ k ≤ n) (h1 : n < 2 ^ (k + 1)) : blen n = k + 1 := by
  induction k generalizing n with
  | zero =>
    have : n = 1 := by simp at h0 h1; omega
    subst this
    rw [blen_pos (by decide), blen_zero]
  | succ k ih =>
    rw [Nat.pow_succ] at h0 h1
    have hp := Nat.two_pow_pos k
    rw [blen_pos (by omega), ih (n := n / 2) (by omega) (by omega)]

theorem ok_nd {n k : Nat} (h : n < 2 ^ (32 * k)) (hk : k < 1000000) : okw (nd n) = true := okw_of (Nat.lt_of_le_of_lt (nd_length_le h) (by omega)) (Ws_nd n)
theorem add_lt {x y k : Nat} (h : x < 2 ^ (32 * k)) (g : y < 2 ^ (32 * k)) : x + y < 2 ^ (32 * (k + 1)) := by rw [pow_succ32]; omega
theorem mul_lt {x y k j : Nat} (h : x < 2 ^ (32 * k)) (g : y < 2 ^ (32 * j)) : x * y < 2 ^ (32 * (k + j)) := by
  rw [Nat.mul_add, Nat.pow_add]
  exact Nat.mul_lt_mul'' h g
theorem le_pow {x k j : Nat} (h : x < 2 ^ (32 * k)) (hk : k ≤ j) : x < 2 ^ (32 * j) := Nat.lt_of_lt_of_le h (Nat.pow_le_pow_right (by omega) (by omega))
theorem nv_lt_of {l : List Int} (h : Ws l) {k : Nat} (hk : l.length ≤ k) : nv l < 2 ^ (32 * k) := le_pow (nv_lt h) hk
theorem cmp_add (x y z : Nat) : cmp (x + z) (y + z) = cmp x y := by
  rcases Nat.lt_trichotomy x y with h | h | h
  · rw [cmp_lt h, cmp_lt (by omega)]
  · rw [cmp_eq h, cmp_eq (by omega)]
  · rw [cmp_gt h, cmp_gt (by omega)]
theorem cmp_neg (x y : Nat) : cmp x y = -cmp y x := by
  rcases Nat.lt_trichotomy x y with h | h | h
  · rw [cmp_lt h, cmp_gt h]
  · rw [cmp_eq h, cmp_eq h.symm]; rfl
  · rw [cmp_gt h, cmp_lt h]; rfl
theorem cmp_zero {x y : Nat} : cmp x y = 0 ↔ x = y := by
  rcases Nat.lt_trichotomy x y with h | h | h
  · rw [cmp_lt h]; omega
  · rw [cmp_eq h]; omega
  · rw [cmp_gt h]; omega
theorem cmp_range (x y : Nat) : -1 ≤ cmp x y ∧ cmp x y ≤ 1 := by
  rcases Nat.lt_trichotomy x y with h | h | h
  · rw [cmp_lt h]; omega
  · rw [cmp_eq h]; omega
  · rw [cmp_gt h]; omega

end Go.Proofs.Ytcdkopidgibijaa.Num
