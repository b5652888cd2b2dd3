/- A function's walk over a state told by what its slots and variables hold: whatever the order that a region draws, each operation is told once. -/
import Derived.Test.YtcdkopidgibijaaWMore
import Derived.Laws.Tables
import Derived.Deep.MidRow
import Derived.KernelRfl
namespace Go.Proofs.Ytcdkopidgibijaa.Lin
open Go Go.RowKit Go.Proofs.YtcdkopidgibijaaW.PrintWords

/-- What one cell holds: a value, or a row of numbers of 32 bits. -/
inductive At where
  | val (v : Value)
  | row (l : List Int)
  | rats (l : List (Bool × List Int × List Int))
  | prat (q : Bool × List Int × List Int)
inductive El where
  | one (x : At)
  | agg (xs : List At)
inductive Rs where
  | el (e : El)
  | tup (es : List El)
inductive Den where
  | rs (r : Rs)
  | ptr (k off : Nat)
  | clo (f : Nat) (ks : List Nat)
  | und
  | any
/-- The variables that it leads to. -/
def Den.ks : Den → List Nat
  | .ptr k _ => [k]
  | .clo _ ks => ks
  | _ => []

def SeesRow (w : World) (bad : Nat → Prop) (v : Value) (l : List Int) : Prop := ∃ A c, v = .slice A l.length c ∧ l.length ≤ c ∧ Kd.C (Kd.int .u32) w A l.length l ∧ ∀ ad, A = some ad → l ≠ [] → ¬ bad ad.block
/-- Three cells that hold a fraction. -/
structure SeesQ (w : World) (bad : Nat → Prop) (ad : Addr) (q : Bool × List Int × List Int) : Prop where
  good : ¬ bad ad.block
  c0 : w.cell? ad = some (.bool q.1)
  c1 : ∃ u, w.cell? (ad.add 1) = some u ∧ SeesRow w bad u q.2.1
  c2 : ∃ u, w.cell? (ad.add 2) = some u ∧ SeesRow w bad u q.2.2
def SeesA (w : World) (bad : Nat → Prop) (v : Value) : At → Prop
  | .val u => v = u ∧ v.oneCell' = true
  | .row l => SeesRow w bad v l
  | .rats l => ∃ A c, v = .slice A l.length c ∧ l.length ≤ c ∧ ∀ (j : Nat) (q : Bool × List Int × List Int), l[j]? = some q → ∃ ad, A = some ad ∧ SeesQ w bad (ad.add (j * 3)) q
  | .prat q => ∃ ad, v = .pointer (some ad) ∧ SeesQ w bad ad q
structure SeesL (w : World) (bad : Nat → Prop) (cs : List Value) (xs : List At) : Prop where
  len : cs.length = xs.length
  at_ : ∀ (i : Nat) (v : Value) (x : At), cs[i]? = some v → xs[i]? = some x → SeesA w bad v x
def SeesE (w : World) (bad : Nat → Prop) (v : Value) : El → Prop
  | .one x => SeesA w bad v x
  | .agg xs => ∃ cs : List Value, v = .agg cs.toArray ∧ SeesL w bad cs xs
def SeesR (w : World) (bad : Nat → Prop) (v : Value) : Rs → Prop
  | .el e => SeesE w bad v e
  | .tup es => ∃ vs : List Value, v = .tuple vs.toArray ∧ vs.length = es.length ∧ ∀ (i : Nat) (u : Value) (e : El), vs[i]? = some u → es[i]? = some e → SeesE w bad u e
def SeesD (w : World) (bad : Nat → Prop) (ρ : Nat → Nat) (v : Value) : Den → Prop
  | .rs r => SeesR w bad v r
  | .ptr k off => v = .pointer (some ⟨ρ k, off, none⟩)
  | .clo f ks => v = .func (.func f) #[] (ks.map fun k => Value.pointer (some ⟨ρ k, 0, none⟩)).toArray
  | .und => v = undef
  | .any => True

section stays
variable {w w' : World} {bad bad' : Nat → Prop} {v : Value}
theorem SeesA.one {x : At} (h : SeesA w bad v x) : v.oneCell' = true := by
  cases x with
  | val u => exact h.2
  | row l => obtain ⟨A, c, rfl, _⟩ := h; rfl
  | rats l => obtain ⟨A, c, rfl, _⟩ := h; rfl
  | prat q => obtain ⟨ad, rfl, _⟩ := h; rfl
/-- What is seen stays where its blocks stay. -/
def Moves (w : World) (bad : Nat → Prop) (w' : World) (bad' : Nat → Prop) : Prop := ∀ b, ¬ bad b → b < w.heap.size → ¬ bad' b ∧ w'.heap[b]? = w.heap[b]?
theorem add_blk (ad : Addr) (k : Nat) : (ad.add k).block = ad.block := by unfold Addr.add; split <;> rfl
theorem cell_lt {p : Addr} {u : Value} (h : w.cell? p = some u) : p.block < w.heap.size := by
  unfold World.cell? at h
  rcases Nat.lt_or_ge p.block w.heap.size with hlt | hge
  · exact hlt
  · rw [Array.getElem?_eq_none hge] at h
    cases h
/-- A row's block is there. -/
theorem row_lt {A : Option Addr} {l : List Int} (h : Kd.C (Kd.int .u32) w A l.length l) {ad : Addr} (hA : A = some ad) (hl : l ≠ []) : ad.block < w.heap.size := by
  have hn : 0 < l.length := List.length_pos_iff.2 hl
  obtain ⟨ad', hA', hc⟩ := h.2.2 hn
  rw [hA] at hA'
  obtain rfl := Option.some.inj hA'
  obtain ⟨cs, h1, h2, h3⟩ := hc 0 l[0] (List.getElem?_eq_getElem hn)
  have hcs : cs = [Value.int .u32 l[0]] := h2
  have := cell_lt (h3 0 (Value.int .u32 l[0]) (by rw [hcs]; rfl))
  rwa [add_blk] at this
theorem SeesRow.move {l : List Int} (hm : Moves w bad w' bad') (h : SeesRow w bad v l) : SeesRow w' bad' v l := by
  obtain ⟨A, c, rfl, hl, hc, hb⟩ := h
  refine ⟨A, c, rfl, hl, ⟨hc.1, hc.2.1, fun hn => ?_⟩, fun ad hA hne => (hm _ (hb ad hA hne) (row_lt hc hA hne)).1⟩
  obtain ⟨ad, hA, hcc⟩ := hc.2.2 hn
  have hne := List.length_pos_iff.1 hn
  have hh := (hm _ (hb ad hA hne) (row_lt hc hA hne)).2
  refine ⟨ad, hA, fun j p hj => ?_⟩
  obtain ⟨cs, h1, h2, h3⟩ := hcc j p hj
  exact ⟨cs, h1, h2, fun i u hu => (World.cell?_of_block (w := w) (by rw [add_blk]; exact hh)).trans (h3 i u hu)⟩
theorem SeesQ.move {ad : Addr} {q : Bool × List Int × List Int} (hm : Moves w bad w' bad') (h : SeesQ w bad ad q) : SeesQ w' bad' ad q := by
  have hh := hm _ h.good (cell_lt h.c0)
  have hc : ∀ k, w'.cell? (ad.add k) = w.cell? (ad.add k) := fun k => World.cell?_of_block (w := w) (by rw [add_blk]; exact hh.2)
  obtain ⟨u1, a1, b1⟩ := h.c1
  obtain ⟨u2, a2, b2⟩ := h.c2
  exact ⟨hh.1, (World.cell?_of_block (w := w) hh.2).trans h.c0, ⟨u1, (hc 1).trans a1, b1.move hm⟩, ⟨u2, (hc 2).trans a2, b2.move hm⟩⟩
theorem SeesA.move {x : At} (hm : Moves w bad w' bad') (h : SeesA w bad v x) : SeesA w' bad' v x := by
  cases x with
  | val u => exact h
  | row l => exact SeesRow.move (l := l) hm h
  | rats l =>
    obtain ⟨A, c, rfl, hl, h⟩ := h
    exact ⟨A, c, rfl, hl, fun j q hj => by obtain ⟨ad, hA, hq⟩ := h j q hj; exact ⟨ad, hA, hq.move hm⟩⟩
  | prat q => obtain ⟨ad, rfl, h⟩ := h; exact ⟨ad, rfl, h.move hm⟩
theorem SeesL.move {cs : List Value} {xs : List At} (hm : Moves w bad w' bad') (h : SeesL w bad cs xs) : SeesL w' bad' cs xs := ⟨h.len, fun i v x h1 h2 => (h.at_ i v x h1 h2).move hm⟩
theorem SeesE.move {e : El} (hm : Moves w bad w' bad') (h : SeesE w bad v e) : SeesE w' bad' v e := by
  cases e with
  | one x => exact SeesA.move hm h
  | agg xs => obtain ⟨cs, rfl, h⟩ := h; exact ⟨cs, rfl, h.move hm⟩
theorem SeesR.move {r : Rs} (hm : Moves w bad w' bad') (h : SeesR w bad v r) : SeesR w' bad' v r := by
  cases r with
  | el e => exact SeesE.move (e := e) hm h
  | tup es => obtain ⟨vs, rfl, hl, h⟩ := h; exact ⟨vs, rfl, hl, fun i u e h1 h2 => (h i u e h1 h2).move hm⟩
theorem SeesD.move {ρ : Nat → Nat} {d : Den} (hm : Moves w bad w' bad') (h : SeesD w bad ρ v d) : SeesD w' bad' ρ v d := by
  cases d with
  | rs r => exact SeesR.move hm h
  | ptr k off => exact h
  | clo f ks => exact h
  | und => exact h
  | any => trivial
theorem Moves.below (hb : Below w.heap.size w w') : Moves w bad w' bad := fun b hn hlt => ⟨hn, hb.block b hlt⟩
/-- New blocks may be bad. -/
theorem Moves.belowNew (hb : Below w.heap.size w w') (hbad : ∀ b, bad' b → bad b ∨ w.heap.size ≤ b) : Moves w bad w' bad' := fun b hn hlt => ⟨fun h => (hbad b h).elim hn (fun hge => Nat.not_lt.2 hge hlt), hb.block b hlt⟩
theorem Moves.less (hbad : ∀ b, bad' b → bad b) : Moves w bad w bad' := fun b hn _ => ⟨fun h => hn (hbad b h), rfl⟩
/-- A bad block turned. -/
theorem Moves.turned {g : Nat} (hg : bad g) (hh : ∀ k, k ≠ g → w'.heap[k]? = w.heap[k]?) : Moves w bad w' bad := fun b hn _ => ⟨hn, hh b (fun e => hn (e ▸ hg))⟩
end stays

/-! ### The state -/
structure St where
  n : Nat
  env : List (Nat × Den)
  box : List (Nat × TypeId × List At)
def get : List (Nat × Den) → Nat → Den
  | [], _ => .any
  | (t, d) :: r, i => bif Nat.beq t i then d else get r i
def boxOf : List (Nat × TypeId × List At) → Nat → Option (TypeId × List At)
  | [], _ => none
  | (t, d) :: r, i => bif Nat.beq t i then some d else boxOf r i
theorem get_same (t : Nat) (d : Den) (r : List (Nat × Den)) : get ((t, d) :: r) t = d := by simp [get]
theorem get_other {t i : Nat} (h : t ≠ i) (d : Den) (r : List (Nat × Den)) : get ((t, d) :: r) i = get r i := by
  have : Nat.beq t i = false := by rw [← Bool.not_eq_true]; simpa using h
  simp [get, this]
theorem boxOf_same (t : Nat) (d : TypeId × List At) (r : List (Nat × TypeId × List At)) : boxOf ((t, d) :: r) t = some d := by simp [boxOf]
theorem boxOf_other {t i : Nat} (h : t ≠ i) (d : TypeId × List At) (r : List (Nat × TypeId × List At)) : boxOf ((t, d) :: r) i = boxOf r i := by
  have : Nat.beq t i = false := by rw [← Bool.not_eq_true]; simpa using h
  simp [boxOf, this]

def badOf (out : Nat → Prop) (ρ : Nat → Nat) (s : St) (b : Nat) : Prop := out b ∨ ∃ k, (boxOf s.box k).isSome = true ∧ ρ k = b
/-- Where a walk began: the world, what is deferred, and where the variables lie that are not of its slots. -/
structure Base extends World where
  ds : List Deferred
  pin : Nat → Nat
instance : Coe Base World := ⟨Base.toWorld⟩
structure RelP (out : Nat → Prop) (w0 : Base) (ρ : Nat → Nat) (s : St) (a : Act) (w : World) : Prop where
  size : a.tmps.size = s.n
  defers : a.defers = w0.ds
  pin : ∀ k, s.n ≤ k → ρ k = w0.pin k
  slots : ∀ t, SeesD w (badOf out ρ s) ρ (a.tmps.getD t undef) (get s.env t)
  boxes : ∀ k T xs, boxOf s.box k = some (T, xs) → (k < 1000 → w0.heap.size ≤ ρ k) ∧ ∃ cs : List Value, w.heap[ρ k]? = some (.cells cs.toArray T (0, 0)) ∧ SeesL w (badOf out ρ s) cs xs
  inj : ∀ k k', (boxOf s.box k).isSome = true → (boxOf s.box k').isSome = true → ρ k = ρ k' → k = k'
  ptrs : ∀ t k, k ∈ (get s.env t).ks → (boxOf s.box k).isSome = true
  out_ : ∀ b, out b → b < w0.heap.size
  below : Below w0.heap.size w0.toWorld w
def Rel (out : Nat → Prop) (w0 : Base) (s : St) (a : Act) (w : World) : Prop := ∃ ρ, RelP out w0 ρ s a w
/-- States that look alike. -/
structure Alike (s s' : St) : Prop where
  n : s'.n = s.n
  env : ∀ t, get s'.env t = get s.env t
  box : ∀ k, boxOf s'.box k = boxOf s.box k
theorem badOf_alike {out : Nat → Prop} {ρ : Nat → Nat} {s s' : St} (h : Alike s s') : badOf out ρ s' = badOf out ρ s := by
  funext b
  unfold badOf
  simp only [h.box]
theorem Rel.alike {out : Nat → Prop} {w0 : Base} {s s' : St} {a : Act} {w : World} (h : Alike s s') (hr : Rel out w0 s a w) : Rel out w0 s' a w := by
  obtain ⟨ρ, hr⟩ := hr
  refine ⟨ρ, ?_⟩
  have hb := badOf_alike (out := out) (ρ := ρ) h
  exact ⟨hr.size.trans h.n.symm, hr.defers, fun k hk => hr.pin k (h.n ▸ hk), fun t => by rw [hb, h.env]; exact hr.slots t, fun k T xs hk => by rw [hb]; rw [h.box] at hk; exact hr.boxes k T xs hk,
    fun k k' h1 h2 => by rw [h.box] at h1 h2; exact hr.inj k k' h1 h2, fun t k ht => by rw [h.env] at ht; rw [h.box]; exact hr.ptrs t k ht, hr.out_, hr.below⟩

/-! ### What an operation writes -/
inductive Wr where
  | slot (t : Nat) (d : Den)
  | new (t : Nat) (T : TypeId) (xs : List At)
  | box (k : Nat) (T : TypeId) (xs : List At)
def Wr.app : Wr → St → St
  | .slot t d, s => ⟨s.n, (t, d) :: s.env, s.box⟩
  | .new t T xs, s => ⟨s.n, (t, .ptr t 0) :: s.env, (t, T, xs) :: s.box⟩
  | .box k T xs, s => ⟨s.n, s.env, (k, T, xs) :: s.box⟩
/-- Places: a slot t is 2t, a variable k is 2k+1. -/
def Wr.locs : Wr → List Nat
  | .slot t _ => [2 * t]
  | .new t _ _ => [2 * t, 2 * t + 1]
  | .box k _ _ => [2 * k + 1]
structure Agree (rs : List Nat) (s s' : St) : Prop where
  n : s'.n = s.n
  env : ∀ t, 2 * t ∈ rs → get s'.env t = get s.env t
  box : ∀ k, 2 * k + 1 ∈ rs → boxOf s'.box k = boxOf s.box k
theorem Wr.n (x : Wr) (s : St) : (x.app s).n = s.n := by cases x <;> rfl
theorem Wr.env (x : Wr) {s s' : St} (t : Nat) (h : 2 * t ∈ x.locs ∨ get s'.env t = get s.env t) : get (x.app s').env t = get (x.app s).env t := by
  cases x with
  | slot u d =>
    by_cases e : u = t
    · subst e; exact (get_same _ _ _).trans (get_same _ _ _).symm
    · exact (get_other e _ _).trans ((h.resolve_left (by simp [Wr.locs]; omega)).trans (get_other e _ _).symm)
  | new u T xs =>
    by_cases e : u = t
    · subst e; exact (get_same _ _ _).trans (get_same _ _ _).symm
    · exact (get_other e _ _).trans ((h.resolve_left (by simp [Wr.locs]; omega)).trans (get_other e _ _).symm)
  | box k T xs => exact h.resolve_left (by simp [Wr.locs]; omega)
theorem Wr.boxs (x : Wr) {s s' : St} (k : Nat) (h : 2 * k + 1 ∈ x.locs ∨ boxOf s'.box k = boxOf s.box k) : boxOf (x.app s').box k = boxOf (x.app s).box k := by
  cases x with
  | slot u d => exact h.resolve_left (by simp [Wr.locs]; omega)
  | new u T xs =>
    by_cases e : u = k
    · subst e; exact (boxOf_same _ _ _).trans (boxOf_same _ _ _).symm
    · exact (boxOf_other e _ _).trans ((h.resolve_left (by simp [Wr.locs]; omega)).trans (boxOf_other e _ _).symm)
  | box u T xs =>
    by_cases e : u = k
    · subst e; exact (boxOf_same _ _ _).trans (boxOf_same _ _ _).symm
    · exact (boxOf_other e _ _).trans ((h.resolve_left (by simp [Wr.locs]; omega)).trans (boxOf_other e _ _).symm)
theorem Wr.env_off (x : Wr) (s : St) (t : Nat) (h : 2 * t ∉ x.locs) : get (x.app s).env t = get s.env t := by
  cases x with
  | slot u d => exact get_other (fun e => h (by simp [Wr.locs, e])) _ _
  | new u T xs => exact get_other (fun e => h (by simp [Wr.locs, e])) _ _
  | box k T xs => rfl
theorem Wr.box_off (x : Wr) (s : St) (k : Nat) (h : 2 * k + 1 ∉ x.locs) : boxOf (x.app s).box k = boxOf s.box k := by
  cases x with
  | slot u d => rfl
  | new u T xs => exact boxOf_other (fun e => h (by simp [Wr.locs, e])) _ _
  | box u T xs => exact boxOf_other (fun e => h (by simp [Wr.locs, e])) _ _

/-- What an operation of a region does, told by what it reads and writes. -/
def StepOk (P : Program) (ops : Array Oper) (s : St) (o : Oper) (rs : List Nat) (x : Wr) : Prop :=
  ∀ (out : Nat → Prop) (w0 : Base) (s' : St) (a : Act) (w : World), Agree rs s s' → Rel out w0 s' a w → ∀ (K : Act → World → Prop) (Q : Exit → Act → World → Prop),
    (∀ a' w', Rel out w0 (x.app s') a' w' → K a' w') → if Region.wanted o (yielded ops a.tmps) = true then o.wp P a w K Q else K (a.put o.dst undef) w

/-! ### Whatever the order -/
section order
variable {P : Program} {ops : Array Oper} {md : Region.Mode}
structure Tr where
  i : Nat
  rs : List Nat
  x : Wr
/-- The writes of those that have come up, the newest of the text first. -/
def appD (p : Nat → Bool) (s0 : St) : List Tr → St
  | [] => s0
  | t :: r => bif p t.i then t.x.app (appD p s0 r) else appD p s0 r
def appAll (s0 : St) : List Tr → St
  | [] => s0
  | t :: r => t.x.app (appAll s0 r)
inductive Chain (P : Program) (ops : Array Oper) (s0 : St) : List Tr → Prop
  | nil : Chain P ops s0 []
  | cons {r : List Tr} {o : Oper} {rs : List Nat} {x : Wr} (h : Chain P ops s0 r) (ho : ops[r.length]? = some o) (hs : StepOk P ops (appAll s0 r) o rs x) : Chain P ops s0 (⟨r.length, rs, x⟩ :: r)
def binds (md : Region.Mode) (ops : Array Oper) (i j : Nat) : Bool := match ops[i]? with
  | some o => o.after.any fun e => Region.binds md e && Nat.beq e.on j
  | none => false
def hits (x : Wr) (t : Tr) : Bool := x.locs.any fun L => t.rs.any (Nat.beq L) || t.x.locs.any (Nat.beq L)
/-- Who writes what another one reads or writes has a place: before it or behind it. -/
def okB (md : Region.Mode) (ops : Array Oper) (l : List Tr) : Bool :=
  l.all fun t => (bif Nat.ble ops.size t.i then true else match ops[t.i]? with
      | some o => o.after.all fun e => !Region.binds md e || Nat.blt e.on t.i
      | none => true) &&
    l.all fun u => Nat.beq u.i t.i || !hits u.x t || (bif Nat.blt u.i t.i then binds md ops t.i u.i else binds md ops u.i t.i)

theorem Chain.index : ∀ {l : List Tr} {s0 : St}, Chain P ops s0 l → ∀ t ∈ l, t.i < l.length
  | _, _, .nil, _, h => by cases h
  | _, _, .cons h _ _, t, ht => by
    rcases List.mem_cons.1 ht with rfl | ht
    · exact Nat.lt_succ_self _
    · exact Nat.lt_succ_of_lt (h.index t ht)
theorem appD_all (s0 : St) (p : Nat → Bool) : ∀ (l : List Tr), (∀ t ∈ l, p t.i = true) → appD p s0 l = appAll s0 l
  | [], _ => rfl
  | t :: r, h => by simp only [appD, appAll, h t List.mem_cons_self, cond_true, appD_all s0 p r (fun u hu => h u (List.mem_cons_of_mem _ hu))]
theorem appD_n (s0 : St) (p : Nat → Bool) : ∀ (l : List Tr), (appD p s0 l).n = s0.n
  | [] => rfl
  | t :: r => by
    simp only [appD]
    cases p t.i
    · exact appD_n s0 p r
    · exact (t.x.n _).trans (appD_n s0 p r)
theorem appD_env (s0 : St) (p q : Nat → Bool) (T : Nat) : ∀ (l : List Tr), (∀ t ∈ l, 2 * T ∈ t.x.locs → p t.i = q t.i) → get (appD p s0 l).env T = get (appD q s0 l).env T
  | [], _ => rfl
  | t :: r, h => by
    have ih := appD_env s0 p q T r (fun u hu => h u (List.mem_cons_of_mem _ hu))
    simp only [appD]
    by_cases hm : 2 * T ∈ t.x.locs
    · rw [h t List.mem_cons_self hm]
      cases q t.i
      · exact ih
      · exact t.x.env T (.inl hm)
    · have e : ∀ c (s : St), get (bif c then t.x.app s else s).env T = get s.env T := fun c s => by
        cases c
        · rfl
        · exact t.x.env_off s T hm
      rw [e, e]
      exact ih
theorem appD_box (s0 : St) (p q : Nat → Bool) (k : Nat) : ∀ (l : List Tr), (∀ t ∈ l, 2 * k + 1 ∈ t.x.locs → p t.i = q t.i) → boxOf (appD p s0 l).box k = boxOf (appD q s0 l).box k
  | [], _ => rfl
  | t :: r, h => by
    have ih := appD_box s0 p q k r (fun u hu => h u (List.mem_cons_of_mem _ hu))
    simp only [appD]
    by_cases hm : 2 * k + 1 ∈ t.x.locs
    · rw [h t List.mem_cons_self hm]
      cases q t.i
      · exact ih
      · exact t.x.boxs k (.inl hm)
    · have e : ∀ c (s : St), boxOf (bif c then t.x.app s else s).box k = boxOf s.box k := fun c s => by
        cases c
        · rfl
        · exact t.x.box_off s k hm
      rw [e, e]
      exact ih

theorem mem_ready' {md : Region.Mode} {ops : Array Oper} {l : Array Bool} {i : Nat} (h : i ∈ Region.ready md ops l) : i < ops.size ∧ l.getD i true = false ∧ ∃ o, ops[i]? = some o ∧ ∀ e ∈ o.after, Region.binds md e = true → l.getD e.on false = true := by
  obtain ⟨h0, o, ho, hall⟩ := mem_ready.1 h
  exact ⟨(Array.getElem?_eq_some_iff.1 ho).1, h0, o, ho, hall⟩
def unl (n : Nat) (l : Array Bool) : Nat := ((List.range n).filter fun i => !l.getD i true).length
theorem filter_drop_lt {α : Type} (p q : α → Bool) : ∀ (l : List α), (∀ x ∈ l, q x = true → p x = true) → (∃ x ∈ l, p x = true ∧ q x = false) → (l.filter q).length < (l.filter p).length
  | [], _, h => by obtain ⟨x, hx, _⟩ := h; cases hx
  | y :: r, hs, h => by
    have hle : (r.filter q).length ≤ (r.filter p).length := by
      have : ∀ l : List α, (∀ x ∈ l, q x = true → p x = true) → (l.filter q).length ≤ (l.filter p).length := by
        intro l
        induction l with
        | nil => intro _; exact Nat.le_refl _
        | cons z l ih =>
          intro hz
          have ih := ih (fun x hx => hz x (List.mem_cons_of_mem _ hx))
          by_cases hq : q z = true
          · rw [List.filter_cons_of_pos hq, List.filter_cons_of_pos (hz z List.mem_cons_self hq)]
            exact Nat.succ_le_succ ih
          · rw [List.filter_cons_of_neg hq]
            by_cases hp : p z = true
            · rw [List.filter_cons_of_pos hp]; exact Nat.le_succ_of_le ih
            · rw [List.filter_cons_of_neg hp]; exact ih
      exact this r (fun x hx => hs x (List.mem_cons_of_mem _ hx))
    obtain ⟨x, hx, hp, hq⟩ := h
    rcases List.mem_cons.1 hx with rfl | hx
    · rw [List.filter_cons_of_pos hp, List.filter_cons_of_neg (by rw [hq]; decide)]
      exact Nat.lt_succ_of_le hle
    · have ih := filter_drop_lt p q r (fun x hx => hs x (List.mem_cons_of_mem _ hx)) ⟨x, hx, hp, hq⟩
      by_cases hqy : q y = true
      · rw [List.filter_cons_of_pos hqy, List.filter_cons_of_pos (hs y List.mem_cons_self hqy)]
        exact Nat.succ_lt_succ ih
      · rw [List.filter_cons_of_neg hqy]
        by_cases hpy : p y = true
        · rw [List.filter_cons_of_pos hpy]; exact Nat.lt_succ_of_lt ih
        · rw [List.filter_cons_of_neg hpy]; exact ih
theorem unl_set {n i : Nat} {l : Array Bool} (hi : i < n) (hl : l.getD i true = false) : unl n (l.setIfInBounds i true) < unl n l := by
  refine filter_drop_lt _ _ _ (fun x _ hx => ?_) ⟨i, List.mem_range.2 hi, by simp [hl], ?_⟩
  · by_cases e : i = x
    · subst e; simp [hl]
    · rwa [getD_set_ne true e] at hx
  · have hlt : i < l.size := by
      rcases Nat.lt_or_ge i l.size with h' | h'
      · exact h'
      · simp [Array.getElem?_eq_none h'] at hl
    simp [hlt]
/-- A condition that each operation that may come up keeps. -/
theorem wpAny_inv {P : Program} {md : Region.Mode} {ops : Array Oper} {Q : Exit → Act → World → Prop} (I : Array Bool → Act → World → Prop)
    (hstep : ∀ l a w i, I l a w → i ∈ Region.ready md ops l → wpOp P ops Q i (fun a' w' => I (l.setIfInBounds i true) a' w') a w)
    (hdone : ∀ l a w, I l a w → Region.ready md ops l = [] → Q .normal a w) : ∀ (fuel : Nat) (l : Array Bool) (a : Act) (w : World), unl ops.size l ≤ fuel → I l a w → wpAny P md ops Q fuel l a w
  | 0, l, a, w, hf, hI => by
    have hr : Region.ready md ops l = [] := by
      rw [List.eq_nil_iff_forall_not_mem]
      intro i hi
      obtain ⟨h1, h2, _⟩ := mem_ready' hi
      have : 0 < unl ops.size l := List.length_pos_iff.2 (fun e => by
        have : i ∈ (List.range ops.size).filter fun i => !l.getD i true := List.mem_filter.2 ⟨List.mem_range.2 h1, by simp only [h2]; decide⟩
        rw [e] at this
        cases this)
      omega
    exact ⟨hr, hdone l a w hI hr⟩
  | fuel + 1, l, a, w, hf, hI => ⟨fun hr => hdone l a w hI hr, fun i hi => wpOp_mono (fun a' w' h => wpAny_inv I hstep hdone fuel _ a' w' (by
      obtain ⟨h1, h2, _⟩ := mem_ready' hi
      have := unl_set h1 h2
      omega) h) (hstep l a w i hI hi)⟩

/-- THE LAW: the operations told one behind another, as they stand; whatever order is drawn, what holds at the end holds. -/
theorem region_any {P : Program} {ops : Array Oper} {s0 : St} {l : List Tr} {id : Nat} {Q : Exit → Act → World → Prop} {out : Nat → Prop} {w0 : Base} {a : Act} {w : World}
    (hm : P.follows .mixedOrders = true) (hc : Chain P ops s0 l) (hlen : l.length = ops.size) (hok : okB .any ops l = true) (hr : Rel out w0 s0 a w)
    (hQ : ∀ a' w', Rel out w0 (appAll s0 l) a' w' → Q .normal a' w') : (Code.region id ops true).wp P Q a w := by
  have hall := List.all_eq_true.1 hok
  have hplace : ∀ t ∈ l, ∀ u ∈ l, u.i ≠ t.i → hits u.x t = true → (u.i < t.i ∧ binds .any ops t.i u.i = true) ∨ (t.i < u.i ∧ binds .any ops u.i t.i = true) := by
    intro t ht u hu hne hh
    have h1 := hall t ht
    rw [Bool.and_eq_true] at h1
    have h2 := List.all_eq_true.1 h1.2 u hu
    rw [hh, show Nat.beq u.i t.i = false by rw [← Bool.not_eq_true]; simpa using hne] at h2
    simp only [Bool.not_true, Bool.or_false, Bool.false_or] at h2
    by_cases hlt : u.i < t.i
    · rw [show Nat.blt u.i t.i = true by simp [Nat.blt]; omega] at h2
      exact .inl ⟨hlt, h2⟩
    · rw [show Nat.blt u.i t.i = false by rw [← Bool.not_eq_true]; simp [Nat.blt]; omega] at h2
      exact .inr ⟨by omega, h2⟩
  have hbinds : ∀ {lst : Array Bool} {i j : Nat}, (∀ o, ops[i]? = some o → ∀ e ∈ o.after, Region.binds .any e = true → lst.getD e.on false = true) → binds .any ops i j = true → lst.getD j false = true := by
    intro lst i j h hb
    unfold binds at hb
    split at hb
    · rename_i o ho
      obtain ⟨e, he, h2⟩ := Array.any_eq_true'.1 hb
      rw [Bool.and_eq_true] at h2
      have h3 := h o ho e he h2.1
      rwa [Nat.eq_of_beq_eq_true h2.2] at h3
    · cases hb
  -- the entry of an index
  have hent : ∀ i, i < l.length → ∃ pre t r, l = pre ++ t :: r ∧ t.i = i ∧ r.length = i := by
    intro i hi
    clear hplace hall hok hQ hlen
    induction hc with
    | nil => cases hi
    | cons h ho hs ih =>
      rename_i r' o rs x
      by_cases e : i = r'.length
      · exact ⟨[], _, r', rfl, e.symm, e.symm⟩
      · obtain ⟨pre, t, r, h1, h2, h3⟩ := ih (by simp at hi; omega)
        exact ⟨⟨r'.length, rs, x⟩ :: pre, t, r, by rw [h1]; rfl, h2, h3⟩
  have hchain : ∀ pre t r, l = pre ++ t :: r → ∃ o, ops[t.i]? = some o ∧ StepOk P ops (appAll s0 r) o t.rs t.x ∧ t.i = r.length ∧ Chain P ops s0 r := by
    intro pre t r he
    subst he
    clear hplace hall hok hQ hlen hent
    induction pre with
    | nil => cases hc with | cons h ho hs => exact ⟨_, ho, hs, rfl, h⟩
    | cons p pre ih => cases hc with | cons h ho hs => exact ih h
  have hnth : ∀ i, i < l.length → ∃ o rs x pre r, ops[i]? = some o ∧ l = pre ++ ⟨i, rs, x⟩ :: r ∧ StepOk P ops (appAll s0 r) o rs x ∧ r.length = i ∧ Chain P ops s0 r := by
    intro i hi
    obtain ⟨pre, t, r, h1, h2, h3⟩ := hent i hi
    obtain ⟨o, h4, h5, h6, h7⟩ := hchain pre t r h1
    subst h2
    exact ⟨o, t.rs, t.x, pre, r, h4, h1, h5, h3, h7⟩
  have hpre : ∀ pre i rs x r, l = pre ++ ⟨i, rs, x⟩ :: r → r.length = i → ∀ u ∈ pre, i < u.i := by
    intro pre i rs x r he hl u hu
    obtain ⟨p1, p2, rfl⟩ := List.append_of_mem hu
    obtain ⟨_, _, _, h4, _⟩ := hchain p1 u (p2 ++ ⟨i, rs, x⟩ :: r) (by rw [he]; simp)
    rw [h4]
    simp [hl]
    omega
  let D (lst : Array Bool) (i : Nat) : Bool := lst.getD i false
  let I (lst : Array Bool) (a : Act) (w : World) : Prop := lst.size = ops.size ∧ (∀ i o, ops[i]? = some o → lst.getD i false = true → ∀ e ∈ o.after, Region.binds .any e = true → lst.getD e.on false = true) ∧ Rel out w0 (appD (D lst) s0 l) a w
  refine wp_region_any hm (wpAny_inv I ?_ ?_ _ _ _ _ ?_ ?_)
  · -- a step
    rintro lst a w i ⟨hsz, hdown, hrel⟩ hi
    obtain ⟨hlt, hun, o, ho, hafter⟩ := mem_ready' hi
    have hunD : lst.getD i false = false := by
      have : i < lst.size := by omega
      simpa [this] using hun
    obtain ⟨o', rs, x, pre, r, ho', hl, hs, hrl, hcr⟩ := hnth i (by omega)
    rw [ho] at ho'
    obtain rfl := Option.some.inj ho'
    have hmem : (⟨i, rs, x⟩ : Tr) ∈ l := by rw [hl]; simp
    have hafter' : ∀ o', ops[i]? = some o' → ∀ e ∈ o'.after, Region.binds .any e = true → lst.getD e.on false = true := by
      intro o' ho2
      rw [ho] at ho2
      obtain rfl := Option.some.inj ho2
      exact hafter
    -- whoever hits i's places has come up just if it stands before i
    have hplaceD : ∀ u ∈ l, u.i ≠ i → hits u.x ⟨i, rs, x⟩ = true → (lst.getD u.i false = true ↔ u.i < i) := by
      intro u hu hne hh
      rcases hplace _ hmem u hu hne hh with ⟨h1, h2⟩ | ⟨h1, h2⟩
      · exact ⟨fun _ => h1, fun _ => hbinds hafter' h2⟩
      · refine ⟨fun h3 => ?_, fun h3 => absurd h3 (Nat.lt_asymm h1)⟩
        have := hbinds (fun o' ho2 => hdown u.i o' ho2 h3) h2
        rw [hunD] at this
        cases this
    -- what is seen before i in the text, by the same fold
    have hbefore : appAll s0 r = appD (fun j => decide (j < i)) s0 l := by
      rw [hl]
      have h1 : ∀ (pre' : List Tr), (∀ u ∈ pre', i ≤ u.i) → appD (fun j => decide (j < i)) s0 (pre' ++ r) = appD (fun j => decide (j < i)) s0 r := by
        intro pre' hp
        induction pre' with
        | nil => rfl
        | cons u pre' ih =>
          show (bif decide (u.i < i) then _ else _) = _
          rw [decide_eq_false (Nat.not_lt.2 (hp u List.mem_cons_self))]
          exact ih (fun v hv => hp v (List.mem_cons_of_mem _ hv))
      have h2 := h1 (pre ++ [⟨i, rs, x⟩]) (fun u hu => by
        rcases List.mem_append.1 hu with hu | hu
        · exact Nat.le_of_lt (hpre pre i rs x r hl hrl u hu)
        · rw [List.mem_singleton.1 hu]; exact Nat.le_refl _)
      rw [List.append_assoc, List.singleton_append] at h2
      rw [h2, appD_all]
      intro t ht
      have := hcr.index t ht
      simpa using (by omega : t.i < i)
    have hhit : ∀ u ∈ l, ∀ L, L ∈ u.x.locs → L ∈ rs → hits u.x ⟨i, rs, x⟩ = true := by
      intro u _ L h1 h2
      unfold hits
      rw [List.any_eq_true]
      refine ⟨L, h1, ?_⟩
      rw [Bool.or_eq_true]
      exact .inl (List.any_eq_true.2 ⟨L, h2, by simp⟩)
    have hhit2 : ∀ u ∈ l, ∀ L, L ∈ u.x.locs → L ∈ x.locs → hits u.x ⟨i, rs, x⟩ = true := by
      intro u _ L h1 h2
      unfold hits
      rw [List.any_eq_true]
      refine ⟨L, h1, ?_⟩
      rw [Bool.or_eq_true]
      exact .inr (List.any_eq_true.2 ⟨L, h2, by simp⟩)
    have hagreeL : ∀ L, L ∈ rs → ∀ u ∈ l, L ∈ u.x.locs → D lst u.i = decide (u.i < i) := by
      intro L hL u hu hm
      by_cases e : u.i = i
      · show lst.getD u.i false = _
        rw [e, hunD]
        simp
      · rw [Bool.eq_iff_iff, decide_eq_true_iff]
        exact hplaceD u hu e (hhit u hu L hm hL)
    have hagree : Agree rs (appAll s0 r) (appD (D lst) s0 l) := by
      rw [hbefore]
      exact ⟨by rw [appD_n, appD_n], fun t ht => appD_env s0 _ _ t l (hagreeL _ ht), fun k hk => appD_box s0 _ _ k l (hagreeL _ hk)⟩
    refine wpOp_step ho (fun K hK => hs out w0 _ a w hagree hrel K Q (fun a' w' h => hK a' w' ⟨by simp [hsz], ?_, ?_⟩))
    · intro j oj hoj hj e he hb
      refine getD_set_true ?_
      by_cases eij : i = j
      · subst eij
        exact hafter' oj hoj e he hb
      · rw [getD_set_ne false eij] at hj
        exact hdown j oj hoj hj e he hb
    · -- the state behind i, as the fold has it
      refine Rel.alike ?_ h
      have hset : ∀ u : Nat, D (lst.setIfInBounds i true) u = (D lst u || decide (u = i)) := by
        intro u
        show (lst.setIfInBounds i true).getD u false = _
        by_cases e : i = u
        · subst e
          have : i < lst.size := by omega
          simp [this]
        · rw [getD_set_ne false e, decide_eq_false (Ne.symm e), Bool.or_false]
      -- pre's writers of x's places have not come up
      have hnot : ∀ L, L ∈ x.locs → ∀ u ∈ pre, L ∈ u.x.locs → D lst u.i = false := by
        intro L hL u hu hm
        have hlt := hpre pre i rs x r hl hrl u hu
        have hul : u ∈ l := by rw [hl]; exact List.mem_append_left _ hu
        have := (hplaceD u hul (by omega) (hhit2 u hul L hm hL))
        rw [← Bool.not_eq_true]
        intro h3
        have := this.1 h3
        omega
      have hfold : ∀ (q : Nat → Bool), (∀ u, q u = (D lst u || decide (u = i))) → ∀ pre', (∀ u ∈ pre', i < u.i) → (∀ L, L ∈ x.locs → ∀ u ∈ pre', L ∈ u.x.locs → D lst u.i = false) →
          Alike (x.app (appD (D lst) s0 (pre' ++ ⟨i, rs, x⟩ :: r))) (appD q s0 (pre' ++ ⟨i, rs, x⟩ :: r)) := by
        intro q hq pre'
        have hr0 : appD q s0 r = appD (D lst) s0 r := by
          have : ∀ (r' : List Tr), (∀ u ∈ r', u.i < i) → appD q s0 r' = appD (D lst) s0 r' := by
            intro r' hr'
            induction r' with
            | nil => rfl
            | cons u r' ih =>
              simp only [appD]
              rw [hq, decide_eq_false (Nat.ne_of_lt (hr' u List.mem_cons_self)), Bool.or_false, ih (fun v hv => hr' v (List.mem_cons_of_mem _ hv))]
          exact this r (fun u hu => by have := hcr.index u hu; omega)
        induction pre' with
        | nil =>
          intro _ _
          have e1 : appD q s0 ([] ++ ⟨i, rs, x⟩ :: r) = x.app (appD (D lst) s0 r) := by
            show (bif q i then x.app (appD q s0 r) else appD q s0 r) = _
            rw [hq, decide_eq_true rfl, Bool.or_true, hr0]
            rfl
          have e2 : appD (D lst) s0 ([] ++ ⟨i, rs, x⟩ :: r) = appD (D lst) s0 r := by
            show (bif D lst i then x.app (appD (D lst) s0 r) else appD (D lst) s0 r) = _
            rw [show D lst i = false from hunD]
            rfl
          rw [e1, e2]
          exact ⟨rfl, fun _ => rfl, fun _ => rfl⟩
        | cons u pre' ih =>
          intro hp hn
          have ih := ih (fun v hv => hp v (List.mem_cons_of_mem _ hv)) (fun L hL v hv => hn L hL v (List.mem_cons_of_mem _ hv))
          have hqu : q u.i = D lst u.i := by rw [hq, decide_eq_false (Nat.ne_of_gt (hp u List.mem_cons_self)), Bool.or_false]
          show Alike (x.app (bif D lst u.i then u.x.app (appD (D lst) s0 (pre' ++ ⟨i, rs, x⟩ :: r)) else appD (D lst) s0 (pre' ++ ⟨i, rs, x⟩ :: r))) (bif q u.i then u.x.app (appD q s0 (pre' ++ ⟨i, rs, x⟩ :: r)) else appD q s0 (pre' ++ ⟨i, rs, x⟩ :: r))
          rw [hqu]
          cases hD : D lst u.i
          · exact ih
          · have hdis : ∀ L, L ∈ x.locs → L ∉ u.x.locs := fun L h1 h2 => by
              have := hn L h1 u List.mem_cons_self h2
              rw [hD] at this
              cases this
            refine ⟨?_, fun t => ?_, fun k => ?_⟩
            · show (u.x.app _).n = (x.app (u.x.app _)).n
              rw [Wr.n, Wr.n, Wr.n, ih.n, Wr.n]
            · show get (u.x.app _).env t = get (x.app (u.x.app _)).env t
              by_cases h1 : 2 * t ∈ x.locs
              · rw [Wr.env_off u.x _ t (hdis _ h1), ih.env]
                exact Wr.env x t (.inl h1)
              · rw [Wr.env_off x _ t h1]
                exact Wr.env u.x t (.inr ((ih.env t).trans (Wr.env_off x _ t h1)))
            · show boxOf (u.x.app _).box k = boxOf (x.app (u.x.app _)).box k
              by_cases h1 : 2 * k + 1 ∈ x.locs
              · rw [Wr.box_off u.x _ k (hdis _ h1), ih.box]
                exact Wr.boxs x k (.inl h1)
              · rw [Wr.box_off x _ k h1]
                exact Wr.boxs u.x k (.inr ((ih.box k).trans (Wr.box_off x _ k h1)))
      have := hfold (D (lst.setIfInBounds i true)) hset pre (hpre pre i rs x r hl hrl) hnot
      rw [← hl] at this
      exact this
  · -- the end
    rintro lst a w ⟨hsz, _, hrel⟩ hnil
    have hAll : ∀ i, i < ops.size → lst.getD i false = true := by
      intro i
      induction i using Nat.strongRecOn with
      | _ i ih =>
        intro hi
        apply Classical.byContradiction
        intro hno
        have hun : lst.getD i true = false := by
          have h3 : i < lst.size := by omega
          simpa [h3] using hno
        obtain ⟨o, rs, x, pre, r, ho, hl, _, _⟩ := hnth i (by omega)
        have hmem : (⟨i, rs, x⟩ : Tr) ∈ l := by rw [hl]; simp
        have h1 := hall _ hmem
        rw [Bool.and_eq_true] at h1
        have h2 := h1.1
        rw [show Nat.ble ops.size i = false by rw [← Bool.not_eq_true]; simpa using hi] at h2
        simp only [ho, cond_false] at h2
        have : i ∈ Region.ready .any ops lst := mem_ready.2 ⟨hun, o, ho, fun e he hb => by
          have h3 := Array.all_eq_true_iff_forall_mem.1 h2 e he
          rw [hb] at h3
          have hlt : e.on < i := by simp [Nat.blt] at h3; omega
          exact ih e.on hlt (by omega)⟩
        rw [hnil] at this
        cases this
    rw [appD_all s0 (D lst) l (fun t ht => hAll t.i (by have := hc.index t ht; omega))] at hrel
    exact hQ a w hrel
  · -- the count at the start
    exact Nat.le_trans (List.length_filter_le _ _) (by simp)
  · -- the start
    refine ⟨by simp, fun i o ho h => ?_, ?_⟩
    · have : (Array.replicate ops.size false).getD i false = false := by
        rcases Nat.lt_or_ge i ops.size with h' | h'
        · simp [h']
        · simp [h']
      rw [this] at h
      cases h
    · have hno : ∀ i, D (Array.replicate ops.size false) i = false := by
        intro i
        show (Array.replicate ops.size false).getD i false = false
        rcases Nat.lt_or_ge i ops.size with h' | h'
        · simp [h']
        · simp [h']
      have : ∀ (l' : List Tr), appD (D (Array.replicate ops.size false)) s0 l' = s0 := by
        intro l'
        induction l' with
        | nil => rfl
        | cons u l' ih => simp only [appD, hno, cond_false, ih]
      rw [this]
      obtain ⟨ρ, h1, h2, hpin, h3, h4, h5, hp, h6, h7⟩ := hr
      have hmv : Moves w (badOf out ρ s0) { w with drawn := w.drawn + 1 } (badOf out ρ s0) := Moves.below (Below.refl _ _).drew
      exact ⟨ρ, h1, h2, hpin, fun t => (h3 t).move hmv, fun k T xs hk => ⟨(h4 k T xs hk).1, by obtain ⟨_, cs, g1, g2⟩ := h4 k T xs hk; exact ⟨cs, g1, g2.move hmv⟩⟩, h5, hp, h6, h7.drew⟩
end order
end Go.Proofs.Ytcdkopidgibijaa.Lin
