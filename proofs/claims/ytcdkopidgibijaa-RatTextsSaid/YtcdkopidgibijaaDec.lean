/- Decimal texts, in plain Lean: the document's numbers. -/
import Derived.Test.YtcdkopidgibijaaWWords
namespace Go.Proofs.Ytcdkopidgibijaa.Dec
open Go.RowKit Go.Proofs.YtcdkopidgibijaaW.PrintWords

/-- The number of a row of digits, the lowest first. -/
def dv : List Nat → Nat
  | [] => 0
  | d :: l => d + 10 * dv l
def Ds (l : List Nat) : Prop := ∀ d ∈ l, d < 10
/-- A number's digits, no nought at the end. -/
def dd (n : Nat) : List Nat := if _h : n = 0 then [] else n % 10 :: dd (n / 10)
termination_by n
decreasing_by omega
/-- .. of 0: one. -/
def dc (n : Nat) : List Nat := if n = 0 then [0] else dd n
def ch (d : Nat) : UInt8 := UInt8.ofNat (48 + d)
/-- The text of digits: the highest first. -/
def tx (l : List Nat) : ByteArray := ⟨(l.reverse.map ch).toArray⟩
def dec (n : Nat) : ByteArray := tx (dc n)

theorem Ds.nil : Ds [] := by intro d h; cases h
theorem Ds.cons {d : Nat} {l : List Nat} (h : d < 10) (hl : Ds l) : Ds (d :: l) := by
  intro x hx
  rcases List.mem_cons.1 hx with rfl | hx
  · exact h
  · exact hl x hx
theorem Ds.append {a b : List Nat} (h : Ds a) (k : Ds b) : Ds (a ++ b) := by
  intro x hx
  rcases List.mem_append.1 hx with hx | hx
  · exact h x hx
  · exact k x hx
theorem Ds.snoc {a : List Nat} (h : Ds a) {d : Nat} (hd : d < 10) : Ds (a ++ [d]) := h.append (Ds.nil.cons hd)
theorem Ds.left {a b : List Nat} (h : Ds (a ++ b)) : Ds a := fun x hx => h x (List.mem_append_left _ hx)
theorem Ds.right {a b : List Nat} (h : Ds (a ++ b)) : Ds b := fun x hx => h x (List.mem_append_right _ hx)
theorem Ds.head {d : Nat} {l : List Nat} (h : Ds (d :: l)) : d < 10 := h d List.mem_cons_self
theorem Ds.tail {d : Nat} {l : List Nat} (h : Ds (d :: l)) : Ds l := fun x hx => h x (List.mem_cons_of_mem _ hx)
theorem Ds.getD {l : List Nat} (h : Ds l) (i : Nat) : l.getD i 0 < 10 := by
  rw [List.getD_eq_getElem?_getD]
  cases e : l[i]? with
  | none => simp
  | some x => exact h x (List.mem_of_getElem? e)
theorem Ds.drop {l : List Nat} (h : Ds l) (n : Nat) : Ds (l.drop n) := fun x hx => h x (List.mem_of_mem_drop hx)
theorem Ds.take {l : List Nat} (h : Ds l) (n : Nat) : Ds (l.take n) := fun x hx => h x (List.mem_of_mem_take hx)

theorem dv_append (a b : List Nat) : dv (a ++ b) = dv a + 10 ^ a.length * dv b := by
  induction a with
  | nil => simp [dv]
  | cons d a ih =>
    rw [List.cons_append, dv, dv, ih, List.length_cons, Nat.pow_succ, Nat.mul_add, ← Nat.mul_assoc, Nat.mul_comm 10 (10 ^ a.length)]
    omega
theorem dv_snoc (a : List Nat) (d : Nat) : dv (a ++ [d]) = dv a + 10 ^ a.length * d := by rw [dv_append]; simp [dv]
theorem dv_lt {l : List Nat} (h : Ds l) : dv l < 10 ^ l.length := by
  induction l with
  | nil => simp [dv]
  | cons d l ih =>
    have h1 := ih h.tail
    have h2 := h.head
    rw [dv, List.length_cons, Nat.pow_succ]
    omega
theorem dv_take_succ (l : List Nat) (i : Nat) : dv (l.take (i + 1)) = dv (l.take i) + 10 ^ i * l.getD i 0 := by
  induction l generalizing i with
  | nil => simp [dv]
  | cons d l ih =>
    cases i with
    | zero => simp [dv]
    | succ i =>
      rw [List.take_succ_cons, List.take_succ_cons, dv, dv, ih, List.getD_cons_succ, Nat.pow_succ, Nat.mul_add, ← Nat.mul_assoc, Nat.mul_comm 10 (10 ^ i)]
      omega
theorem dv_dd (n : Nat) : dv (dd n) = n := by
  induction n using Nat.strongRecOn with
  | ind n ih =>
    rw [dd]
    split
    · simp [dv, *]
    · rw [dv, ih _ (by omega)]
      omega
theorem Ds_dd (n : Nat) : Ds (dd n) := by
  induction n using Nat.strongRecOn with
  | ind n ih =>
    rw [dd]
    split
    · exact Ds.nil
    · exact Ds.cons (Nat.mod_lt _ (by omega)) (ih _ (by omega))
theorem dv_dc (n : Nat) : dv (dc n) = n := by
  unfold dc
  split
  · simp [dv, *]
  · exact dv_dd n
theorem Ds_dc (n : Nat) : Ds (dc n) := by
  unfold dc
  split
  · exact Ds.cons (by omega) Ds.nil
  · exact Ds_dd n
theorem dd_length_le {k n : Nat} (h : n < 10 ^ k) : (dd n).length ≤ k := by
  induction k generalizing n with
  | zero =>
    rw [dd, dif_pos (by simpa using h)]
    simp
  | succ k ih =>
    rw [dd]
    split
    · simp
    · rw [List.length_cons]
      have := ih (n := n / 10) (by rw [Nat.pow_succ] at h; omega)
      omega
theorem dd_lower {n : Nat} (h : n ≠ 0) : 10 ^ ((dd n).length - 1) ≤ n ∧ 1 ≤ (dd n).length := by
  induction n using Nat.strongRecOn with
  | ind n ih =>
    rw [dd, dif_neg h, List.length_cons]
    refine ⟨?_, by omega⟩
    rw [Nat.add_sub_cancel]
    by_cases h0 : n / 10 = 0
    · rw [dd, dif_pos h0]
      simp
      omega
    · obtain ⟨h1, h2⟩ := ih (n / 10) (by omega) h0
      obtain ⟨m, hm⟩ : ∃ m, (dd (n / 10)).length = m + 1 := ⟨(dd (n / 10)).length - 1, by omega⟩
      rw [hm] at h1 ⊢
      rw [Nat.add_sub_cancel] at h1
      rw [Nat.pow_succ]
      omega
theorem dc_pos (n : Nat) : 1 ≤ (dc n).length := by
  unfold dc
  split
  · simp
  · rename_i h
    exact (dd_lower h).2
theorem dc_length_le {k n : Nat} (hk : 1 ≤ k) (h : n < 10 ^ k) : (dc n).length ≤ k := by
  unfold dc
  split
  · simpa using hk
  · exact dd_length_le h
theorem dc_len_lt {m n : Nat} (h : (dc m).length < (dc n).length) : m < n := by
  have h1 := dc_pos m
  have hn : n ≠ 0 := by
    intro e
    subst e
    have : (dc 0).length = 1 := by simp [dc]
    omega
  have h2 := (dd_lower hn).1
  have h3 : dc n = dd n := by unfold dc; rw [if_neg hn]
  rw [h3] at h
  have h4 := dv_lt (Ds_dc m)
  rw [dv_dc] at h4
  have h5 : 10 ^ (dc m).length ≤ 10 ^ ((dd n).length - 1) := Nat.pow_le_pow_right (by omega) (by omega)
  omega
theorem dd_snoc {l : List Nat} (h : Ds l) {d : Nat} (hd : d < 10) (h0 : d ≠ 0) : dd (dv (l ++ [d])) = l ++ [d] := by
  induction l with
  | nil =>
    rw [List.nil_append, dv, dv, dd, dif_neg (by omega), show (d + 10 * 0) / 10 = 0 from by omega, dd, dif_pos rfl]
    congr 1
    omega
  | cons x l ih =>
    have hx := h.head
    have hne : dv (l ++ [d]) ≠ 0 := by
      rw [dv_snoc]
      have : 0 < 10 ^ l.length * d := Nat.mul_pos (Nat.pow_pos (by omega)) (by omega)
      omega
    rw [List.cons_append, dv, dd, dif_neg (by omega), show (x + 10 * dv (l ++ [d])) / 10 = dv (l ++ [d]) from by omega, ih h.tail]
    congr 1
    omega
theorem dc_snoc {l : List Nat} (h : Ds l) {d : Nat} (hd : d < 10) (h0 : d ≠ 0) : dc (dv (l ++ [d])) = l ++ [d] := by
  have hne : dv (l ++ [d]) ≠ 0 := by
    rw [dv_snoc]
    have : 0 < 10 ^ l.length * d := Nat.mul_pos (Nat.pow_pos (by omega)) (by omega)
    omega
  unfold dc
  rw [if_neg hne, dd_snoc h hd h0]

/-! ### Texts -/
theorem ch_nat {d : Nat} (h : d < 10) : (ch d).toNat = 48 + d := by
  unfold ch
  rw [UInt8.toNat_ofNat']
  omega
theorem ch_inj {a b : Nat} (ha : a < 10) (hb : b < 10) (h : ch a = ch b) : a = b := by
  have := congrArg UInt8.toNat h
  rw [ch_nat ha, ch_nat hb] at this
  omega
theorem map_inj {a b : List Nat} (ha : Ds a) (hb : Ds b) (h : a.map ch = b.map ch) : a = b := by
  induction a generalizing b with
  | nil => simpa using h.symm
  | cons x a ih =>
    cases b with
    | nil => simp at h
    | cons y b =>
      simp only [List.map_cons, List.cons.injEq] at h
      rw [ch_inj ha.head hb.head h.1, ih ha.tail hb.tail h.2]
theorem Ds.reverse {l : List Nat} (h : Ds l) : Ds l.reverse := fun x hx => h x (List.mem_reverse.1 hx)
theorem tx_size (l : List Nat) : (tx l).size = l.length := by
  show ((l.reverse.map ch).toArray).size = _
  simp
theorem tx_toList (l : List Nat) : (tx l).toList = l.reverse.map ch := ByteArray.toList_mk _
theorem tx_inj {a b : List Nat} (ha : Ds a) (hb : Ds b) (h : (tx a).toList = (tx b).toList) : a = b := by
  rw [tx_toList, tx_toList] at h
  have := map_inj ha.reverse hb.reverse h
  exact List.reverse_inj.1 this
theorem dec_inj {m n : Nat} : (dec m).toList = (dec n).toList ↔ m = n := by
  refine ⟨fun h => ?_, fun h => by rw [h]⟩
  have := tx_inj (Ds_dc m) (Ds_dc n) h
  rw [← dv_dc m, this, dv_dc]
theorem dec_beq (m n : Nat) : ((dec m).toList == (dec n).toList) = decide (m = n) := by
  by_cases h : m = n
  · subst h; simp
  · rw [decide_eq_false h]
    have : ¬ (dec m).toList = (dec n).toList := fun e => h (dec_inj.1 e)
    simpa using this
theorem tx_append (a b : List Nat) : tx a ++ tx b = tx (b ++ a) := by
  unfold tx
  rw [List.reverse_append, List.map_append]
  apply ByteArray.ext
  simp
theorem bt_tx {l : List Nat} (h : Ds l) (i : Nat) (hi : i < l.length) : bt (tx l) (i : Int) = 48 + ((l.getD (l.length - 1 - i) 0 : Nat) : Int) := by
  unfold bt
  rw [Int.toNat_natCast, dif_pos (by rw [tx_size]; exact hi)]
  have e : (tx l)[i]'(by rw [tx_size]; exact hi) = ch (l.getD (l.length - 1 - i) 0) := by
    show ((l.reverse.map ch).toArray)[i]'(by simpa using hi) = _
    rw [List.getElem_toArray, List.getElem_map, List.getElem_reverse, List.getD_eq_getElem?_getD, List.getElem?_eq_getElem (by omega)]
    rfl
  rw [e, ch_nat (h.getD _)]
  omega
theorem tx_extract (l : List Nat) (a b : Nat) : (tx l).extract a b = ⟨(((l.reverse.map ch).drop a).take (b - a)).toArray⟩ := ByteArray.extract_mk _ a b
theorem tx_tail (l : List Nat) (d : Nat) : (tx (l ++ [d])).extract 1 (tx (l ++ [d])).size = tx l := by
  rw [tx_extract, tx_size]
  unfold tx
  congr 2
  rw [List.reverse_append, List.map_append]
  simp [List.take_of_length_le]
theorem tx_nil : tx [] = ⟨#[]⟩ := rfl
theorem dec_zero : dec 0 = ⟨#[48]⟩ := by unfold dec dc; rw [if_pos rfl]; rfl

/-- Of texts as long as each other. -/
theorem less_map {x y : List Nat} (hx : Ds x) (hy : Ds y) (hl : x.length = y.length) : Op.bytesLess (x.map ch) (y.map ch) = decide (dv x.reverse < dv y.reverse) := by
  induction x generalizing y with
  | nil =>
    obtain rfl : y = [] := List.eq_nil_of_length_eq_zero hl.symm
    simp [Op.bytesLess, dv]
  | cons d x ih =>
    cases y with
    | nil => simp at hl
    | cons e y =>
      have hl' : x.length = y.length := by simpa using hl
      have hd := hx.head
      have he := hy.head
      simp only [List.map_cons, Op.bytesLess, List.reverse_cons]
      rw [ih hx.tail hy.tail hl', dv_snoc, dv_snoc, List.length_reverse, List.length_reverse, ← hl']
      have h1 := dv_lt hx.tail.reverse
      have h2 := dv_lt hy.tail.reverse
      rw [List.length_reverse] at h1 h2
      rw [← hl'] at h2
      generalize dv x.reverse = X at h1 ⊢
      generalize dv y.reverse = Y at h2 ⊢
      generalize 10 ^ x.length = p at h1 h2 ⊢
      have hlt : (ch d < ch e) ↔ d < e := by rw [UInt8.lt_iff_toNat_lt, ch_nat hd, ch_nat he]; omega
      rcases Nat.lt_trichotomy d e with h | h | h
      · have : X + p * d < Y + p * e := by
          have := Nat.mul_le_mul_left p (show d + 1 ≤ e from h)
          rw [Nat.mul_add] at this
          omega
        rw [decide_eq_true this]
        simp [hlt.2 h]
      · subst h
        have : (X + p * d < Y + p * d) ↔ X < Y := by omega
        have hn : ¬ (ch d < ch d) := by rw [hlt]; omega
        simp [hn, this]
      · have h' : ¬ (X + p * d < Y + p * e) := by
          have := Nat.mul_le_mul_left p (show e + 1 ≤ d from h)
          rw [Nat.mul_add] at this
          omega
        have hn : ¬ (ch d < ch e) := by rw [hlt]; omega
        have hq : ¬ (ch d = ch e) := fun q => by have := ch_inj hd he q; omega
        rw [decide_eq_false h']
        simp [hn, hq]
theorem less_dec (m n : Nat) (h : (dec m).size = (dec n).size) : Op.bytesLess (dec m).toList (dec n).toList = decide (m < n) := by
  unfold dec at h ⊢
  rw [tx_size, tx_size] at h
  rw [tx_toList, tx_toList, less_map (Ds_dc m).reverse (Ds_dc n).reverse (by simpa using h), List.reverse_reverse, List.reverse_reverse, dv_dc, dv_dc]

/-! ### Numbers of the machine that fit -/
theorem w64 {n : Int} (h0 : -9223372036854775808 ≤ n) (h1 : n < 9223372036854775808) : wrap64 n = n := by unfold wrap64; omega
theorem w64n (n : Nat) (h : n < 9223372036854775808) : wrap64 (n : Int) = (n : Int) := w64 (by omega) (by omega)
theorem w64a (a b : Nat) (h : a + b < 9223372036854775808) : wrap64 ((a : Int) + (b : Int)) = ((a + b : Nat) : Int) := by rw [w64 (by omega) (by omega)]; omega
theorem w64s (a : Nat) (h : a + 1 < 9223372036854775808) : wrap64 ((a : Int) + 1) = ((a + 1 : Nat) : Int) := w64a a 1 h
theorem w64d (a b : Nat) (hb : b ≤ a) (h : a < 9223372036854775808) : wrap64 ((a : Int) - (b : Int)) = ((a - b : Nat) : Int) := by rw [w64 (by omega) (by omega)]; omega
theorem w64p (a : Nat) (h1 : 1 ≤ a) (h : a < 9223372036854775808) : wrap64 ((a : Int) - 1) = ((a - 1 : Nat) : Int) := w64d a 1 h1 h
theorem w64m (a b : Nat) (h : a * b < 9223372036854775808) : wrap64 ((a : Int) * (b : Int)) = ((a * b : Nat) : Int) := by rw [← Int.natCast_mul]; exact w64n _ h
theorem tmod10 (n : Nat) : Int.tmod (n : Int) 10 = ((n % 10 : Nat) : Int) := rfl
theorem tdiv10 (n : Nat) : Int.tdiv (n : Int) 10 = ((n / 10 : Nat) : Int) := rfl

/-! ### Places that are added up -/
theorem dv_set (s : List Nat) (j : Nat) (hj : j < s.length) (x : Nat) : dv (s.set j (s.getD j 0 + x)) = dv s + 10 ^ j * x := by
  induction s generalizing j with
  | nil => simp at hj
  | cons d s ih =>
    cases j with
    | zero => rw [List.set_cons_zero, List.getD_cons_zero, dv, dv, Nat.pow_zero]; omega
    | succ j =>
      rw [List.set_cons_succ, List.getD_cons_succ, dv, dv, ih j (by simpa using hj), Nat.pow_succ, Nat.mul_add, ← Nat.mul_assoc, Nat.mul_comm 10 (10 ^ j)]
      omega
theorem dv_zeros (n : Nat) : dv (List.replicate n 0) = 0 := by
  induction n with
  | zero => rfl
  | succ n ih => rw [List.replicate_succ, dv, ih]
def ints (s : List Nat) : List Int := s.map (fun n : Nat => (n : Int))
theorem ints_length (s : List Nat) : (ints s).length = s.length := by simp [ints]
theorem ints_set (s : List Nat) (j x : Nat) : (ints s).set j (x : Int) = ints (s.set j x) := by unfold ints; rw [List.map_set]
theorem ints_zeros (n : Nat) : List.replicate n (0 : Int) = ints (List.replicate n 0) := by unfold ints; rw [List.map_replicate]; rfl
theorem ints_getD (s : List Nat) (j : Nat) : (ints s).getD j 0 = ((s.getD j 0 : Nat) : Int) := by
  unfold ints
  rw [List.getD_eq_getElem?_getD, List.getD_eq_getElem?_getD, List.getElem?_map]
  cases s[j]? <;> rfl
theorem rd_ints (s : List Nat) (j : Nat) : rd (ints s) (j : Int) = ((s.getD j 0 : Nat) : Int) := by
  rw [← ints_getD]
  simp [rd]
theorem getD_set (s : List Nat) (i j x : Nat) : (s.set i x).getD j 0 = if i = j ∧ i < s.length then x else s.getD j 0 := by
  rw [List.getD_eq_getElem?_getD, List.getD_eq_getElem?_getD, List.getElem?_set]
  by_cases h : i = j
  · subst h
    by_cases h2 : i < s.length
    · simp [h2]
    · simp [h2]
  · simp [h]

/-- A number below a power of 2^32 has ten digits a word at the most. -/
theorem pow32_le (k : Nat) : 2 ^ (32 * k) ≤ 10 ^ (10 * k) := by
  rw [Nat.pow_mul, Nat.pow_mul]
  exact Nat.pow_le_pow_left (by decide) k
theorem dc_len32 {n k : Nat} (hk : 1 ≤ k) (h : n < 2 ^ (32 * k)) : (dc n).length ≤ 10 * k :=
  dc_length_le (by omega) (Nat.lt_of_lt_of_le h (pow32_le k))
theorem tx_2_32 : (⟨#[52, 50, 57, 52, 57, 54, 55, 50, 57, 54]⟩ : ByteArray) = tx [6, 9, 2, 7, 6, 9, 4, 9, 2, 4] := rfl
theorem Ds_2_32 : Ds [6, 9, 2, 7, 6, 9, 4, 9, 2, 4] := by unfold Ds; decide
/-- The letters of digits, as numbers: the lowest digit first. -/
def cs (l : List Nat) : List Int := l.map (fun d : Nat => ((48 + d : Nat) : Int))
theorem cs_length (l : List Nat) : (cs l).length = l.length := by simp [cs]
theorem cs_snoc (l : List Nat) (d : Nat) : cs l ++ [((48 + d : Nat) : Int)] = cs (l ++ [d]) := by simp [cs]
theorem cs_take (l : List Nat) (n : Nat) : (cs l).take n = cs (l.take n) := by unfold cs; rw [List.map_take]
theorem rd_cs (l : List Nat) (d : Nat) : rd (cs (l ++ [d])) (l.length : Int) = ((48 + d : Nat) : Int) := by
  unfold rd cs
  rw [Int.toNat_natCast, List.getD_eq_getElem?_getD, List.map_append, List.getElem?_append_right (by simp)]
  simp
theorem str_cs (l : List Nat) : strOfNums (cs l).reverse = tx l := by
  unfold strOfNums tx cs
  congr 2
  rw [← List.map_reverse, List.map_map]
  rfl

theorem dec_2_64 : (⟨#[49, 56, 52, 52, 54, 55, 52, 52, 48, 55, 51, 55, 48, 57, 53, 53, 49, 54, 49, 54]⟩ : ByteArray) = dec 18446744073709551616 := by
  have h1 : (18446744073709551616 : Nat) = dv ([6, 1, 6, 1, 5, 5, 9, 0, 7, 3, 7, 0, 4, 4, 7, 6, 4, 4, 8] ++ [1]) := rfl
  unfold dec
  rw [h1, dc_snoc (by unfold Ds; decide) (by omega) (by omega)]
  rfl

/-! ### Steps -/
theorem yes {α : Type} {c : Prop} [Decidable c] {A B : Nat → Option α} {r : α} (h : c) (k : Ev A r) : Ev (fun n => if c then A n else B n) r := Ev.congr (fun _ => if_pos h) k
theorem no {α : Type} {c : Prop} [Decidable c] {A B : Nat → Option α} {r : α} (h : ¬ c) (k : Ev B r) : Ev (fun n => if c then A n else B n) r := Ev.congr (fun _ => if_neg h) k
theorem val {α β : Type} {g : Nat → Option α} {f : Nat → α → Option β} {a : α} {r : β} (h : ∀ k, g k = some a) (k : Ev (fun n => f n a) r) : Ev (fun n => (g n).bind (f n)) r := Ev.bind (Ev.congr h (Ev.now a)) k
theorem end_ {α : Type} {g : Nat → Option α} {r : α} (h : Ev g r) : Ev (fun n => (g n).bind fun t => some t) r := Ev.bind h (Ev.now r)

theorem dec_is0 (n : Nat) : (dec n).toList = ([48] : List UInt8) ↔ n = 0 := by
  have h : (dec 0).toList = ([48] : List UInt8) := by rw [dec_zero]; exact ByteArray.toList_mk [48]
  rw [← h]
  exact dec_inj

theorem dec_one : dec 1 = ⟨#[49]⟩ := by
  have h1 : (1 : Nat) = dv ([] ++ [1]) := rfl
  unfold dec
  rw [h1, dc_snoc Ds.nil (by omega) (by omega)]
  rfl

end Go.Proofs.Ytcdkopidgibijaa.Dec
