/-
  The abstract machine; its operations stand for the model's.
-/
import Derived.KernelRfl
import Derived.Calls
import Derived.Orders
import Derived.Laws.World
import Derived.Laws.Sem
import Derived.Laws.Cells
import Derived.Laws.Append
import Derived.Laws.CopyRow
import Derived.Laws.Rows
import Derived.Laws.StructEq
import Derived.ChangeKeysEq
import Derived.Laws.MakeOwn
import Derived.Laws.IdiomCopy
import Derived.Laws.BytesString
import Derived.Laws.IdiomStrings
set_option maxRecDepth 100000
set_option linter.all false
namespace Go.Dk
noncomputable section

/-- One of eight. -/
inductive D8 where | d0 | d1 | d2 | d3 | d4 | d5 | d6 | d7
deriving DecidableEq
/-- Eight of a kind. -/
structure N8 (α : Type) where
  (a b c d e f g h : α)
def N8.get {α : Type} (i : D8) : N8 α → α :=
  D8.rec (motive := fun _ => N8 α → α) N8.a N8.b N8.c N8.d N8.e N8.f N8.g N8.h i
def N8.mA {α : Type} (k : α → α) (n : N8 α) : N8 α := N8.rec (motive := fun _ => N8 α) (fun a b c d e f g h => ⟨k a, b, c, d, e, f, g, h⟩) n
def N8.mB {α : Type} (k : α → α) (n : N8 α) : N8 α := N8.rec (motive := fun _ => N8 α) (fun a b c d e f g h => ⟨a, k b, c, d, e, f, g, h⟩) n
def N8.mC {α : Type} (k : α → α) (n : N8 α) : N8 α := N8.rec (motive := fun _ => N8 α) (fun a b c d e f g h => ⟨a, b, k c, d, e, f, g, h⟩) n
def N8.mD {α : Type} (k : α → α) (n : N8 α) : N8 α := N8.rec (motive := fun _ => N8 α) (fun a b c d e f g h => ⟨a, b, c, k d, e, f, g, h⟩) n
def N8.mE {α : Type} (k : α → α) (n : N8 α) : N8 α := N8.rec (motive := fun _ => N8 α) (fun a b c d e f g h => ⟨a, b, c, d, k e, f, g, h⟩) n
def N8.mF {α : Type} (k : α → α) (n : N8 α) : N8 α := N8.rec (motive := fun _ => N8 α) (fun a b c d e f g h => ⟨a, b, c, d, e, k f, g, h⟩) n
def N8.mG {α : Type} (k : α → α) (n : N8 α) : N8 α := N8.rec (motive := fun _ => N8 α) (fun a b c d e f g h => ⟨a, b, c, d, e, f, k g, h⟩) n
def N8.mH {α : Type} (k : α → α) (n : N8 α) : N8 α := N8.rec (motive := fun _ => N8 α) (fun a b c d e f g h => ⟨a, b, c, d, e, f, g, k h⟩) n
/-- The i-th turned by k. -/
def N8.mod {α : Type} (i : D8) : (α → α) → N8 α → N8 α :=
  D8.rec (motive := fun _ => (α → α) → N8 α → N8 α) N8.mA N8.mB N8.mC N8.mD N8.mE N8.mF N8.mG N8.mH i
def N8.rep {α : Type} (x : α) : N8 α := ⟨x, x, x, x, x, x, x, x⟩
theorem N8.get_mod {α : Type} (i j : D8) (k : α → α) (n : N8 α) : N8.get j (N8.mod i k n) = if i = j then k (N8.get i n) else N8.get j n := by
  cases n; cases i <;> cases j <;> rfl
theorem N8.get_rep {α : Type} (j : D8) (x : α) : N8.get j (N8.rep x) = x := by cases j <;> rfl
def D8.num (i : D8) : Nat := D8.rec (motive := fun _ => Nat) 0 1 2 3 4 5 6 7 i
theorem D8.num_lt (i : D8) : i.num < 8 := by cases i <;> decide
theorem D8.num_inj {i j : D8} (h : i.num = j.num) : i = j := by cases i <;> cases j <;> first | rfl | (exact absurd h (by decide))
/-- The n-th of the eight. -/
def D8.of (n : Nat) : D8 := if n = 0 then .d0 else if n = 1 then .d1 else if n = 2 then .d2 else if n = 3 then .d3 else if n = 4 then .d4 else if n = 5 then .d5 else if n = 6 then .d6 else .d7

/-- A slot's number, in three digits. -/
structure I3 where
  (a b c : D8)
deriving DecidableEq
def I3.num (i : I3) : Nat := 64 * i.a.num + 8 * i.b.num + i.c.num
theorem I3.num_inj {i j : I3} (h : i.num = j.num) : i = j := by
  obtain ⟨a, b, c⟩ := i; obtain ⟨a', b', c'⟩ := j
  have := D8.num_lt a; have := D8.num_lt b; have := D8.num_lt c; have := D8.num_lt a'; have := D8.num_lt b'; have := D8.num_lt c'
  simp only [I3.num] at h
  rw [D8.num_inj (i := a) (j := a') (by omega), D8.num_inj (i := b) (j := b') (by omega), D8.num_inj (i := c) (j := c') (by omega)]
def I3.of (n : Nat) : I3 := ⟨D8.of (n / 64), D8.of (n / 8 % 8), D8.of (n % 8)⟩
abbrev F3 (α : Type) := N8 (N8 (N8 α))
def get3 {α : Type} (i : I3) (t : F3 α) : α := I3.rec (motive := fun _ => F3 α → α) (fun a b c t => N8.get c (N8.get b (N8.get a t))) i t
def set3 {α : Type} (i : I3) (x : α) (t : F3 α) : F3 α :=
  I3.rec (motive := fun _ => α → F3 α → F3 α) (fun a b c x t => N8.mod a (N8.mod b (N8.mod c (fun _ => x))) t) i x t
def rep3 {α : Type} (x : α) : F3 α := N8.rep (N8.rep (N8.rep x))
theorem get_set3 {α : Type} (i j : I3) (x : α) (t : F3 α) : get3 j (set3 i x t) = if i = j then x else get3 j t := by
  obtain ⟨a, b, c⟩ := i; obtain ⟨a', b', c'⟩ := j
  simp only [get3, set3, N8.get_mod, I3.mk.injEq]
  by_cases h1 : a = a' <;> by_cases h2 : b = b' <;> by_cases h3 : c = c' <;> simp [h1, h2, h3, N8.get_mod]
theorem get_rep3 {α : Type} (i : I3) (x : α) : get3 i (rep3 x) = x := by
  obtain ⟨a, b, c⟩ := i
  simp only [get3, rep3, N8.get_rep]

/-- A block's number, in five digits. -/
structure Id where
  (a b c d e : D8)
deriving DecidableEq
def Id.num (i : Id) : Nat := 4096 * i.a.num + 512 * i.b.num + 64 * i.c.num + 8 * i.d.num + i.e.num
theorem Id.num_inj {i j : Id} (h : i.num = j.num) : i = j := by
  obtain ⟨a, b, c, d, e⟩ := i; obtain ⟨a', b', c', d', e'⟩ := j
  have := D8.num_lt a; have := D8.num_lt b; have := D8.num_lt c; have := D8.num_lt d; have := D8.num_lt e
  have := D8.num_lt a'; have := D8.num_lt b'; have := D8.num_lt c'; have := D8.num_lt d'; have := D8.num_lt e'
  simp only [Id.num] at h
  rw [D8.num_inj (i := a) (j := a') (by omega), D8.num_inj (i := b) (j := b') (by omega), D8.num_inj (i := c) (j := c') (by omega), D8.num_inj (i := d) (j := d') (by omega), D8.num_inj (i := e) (j := e') (by omega)]
/-- The next of the eight; behind the last one: 'last'. -/
def D8.next {α : Type} (i : D8) (k : D8 → α) (last : α) : α :=
  D8.rec (motive := fun _ => α) (k .d1) (k .d2) (k .d3) (k .d4) (k .d5) (k .d6) (k .d7) last i
/-- The next number; none behind the last. -/
def Id.succ (i : Id) : Option Id :=
  Id.rec (motive := fun _ => Option Id) (fun a b c d e =>
    e.next (fun e => some ⟨a, b, c, d, e⟩)
      (d.next (fun d => some ⟨a, b, c, d, .d0⟩)
        (c.next (fun c => some ⟨a, b, c, .d0, .d0⟩)
          (b.next (fun b => some ⟨a, b, .d0, .d0, .d0⟩)
            (a.next (fun a => some ⟨a, .d0, .d0, .d0, .d0⟩) none))))) i
theorem D8.next_spec {α : Type} (i : D8) (k : D8 → α) (last : α) : (∃ j : D8, j.num = i.num + 1 ∧ i.next k last = k j) ∨ (i.num = 7 ∧ i.next k last = last) := by
  cases i
  · exact .inl ⟨.d1, rfl, rfl⟩
  · exact .inl ⟨.d2, rfl, rfl⟩
  · exact .inl ⟨.d3, rfl, rfl⟩
  · exact .inl ⟨.d4, rfl, rfl⟩
  · exact .inl ⟨.d5, rfl, rfl⟩
  · exact .inl ⟨.d6, rfl, rfl⟩
  · exact .inl ⟨.d7, rfl, rfl⟩
  · exact .inr ⟨rfl, rfl⟩
theorem Id.succ_num {i j : Id} (h : i.succ = some j) : j.num = i.num + 1 := by
  obtain ⟨a, b, c, d, e⟩ := i
  simp only [Id.succ] at h
  rcases D8.next_spec e (fun e => some (⟨a, b, c, d, e⟩ : Id)) _ with ⟨x, hx, h1⟩ | ⟨he, h1⟩
  · rw [h1] at h; cases h; have z : D8.d0.num = 0 := rfl; simp only [Id.num]; omega
  rw [h1] at h
  rcases D8.next_spec d (fun d => some (⟨a, b, c, d, .d0⟩ : Id)) _ with ⟨x, hx, h2⟩ | ⟨hd, h2⟩
  · rw [h2] at h; cases h; have z : D8.d0.num = 0 := rfl; simp only [Id.num]; omega
  rw [h2] at h
  rcases D8.next_spec c (fun c => some (⟨a, b, c, .d0, .d0⟩ : Id)) _ with ⟨x, hx, h3⟩ | ⟨hc, h3⟩
  · rw [h3] at h; cases h; have z : D8.d0.num = 0 := rfl; simp only [Id.num]; omega
  rw [h3] at h
  rcases D8.next_spec b (fun b => some (⟨a, b, .d0, .d0, .d0⟩ : Id)) _ with ⟨x, hx, h4⟩ | ⟨hb, h4⟩
  · rw [h4] at h; cases h; have z : D8.d0.num = 0 := rfl; simp only [Id.num]; omega
  rw [h4] at h
  rcases D8.next_spec a (fun a => some (⟨a, .d0, .d0, .d0, .d0⟩ : Id)) _ with ⟨x, hx, h5⟩ | ⟨ha, h5⟩
  · rw [h5] at h; cases h; have z : D8.d0.num = 0 := rfl; simp only [Id.num]; omega
  rw [h5] at h; cases h
abbrev F5 (α : Type) := N8 (N8 (N8 (N8 (N8 α))))
def get5 {α : Type} (i : Id) (t : F5 α) : α :=
  Id.rec (motive := fun _ => F5 α → α) (fun a b c d e t => N8.get e (N8.get d (N8.get c (N8.get b (N8.get a t))))) i t
def set5 {α : Type} (i : Id) (x : α) (t : F5 α) : F5 α :=
  Id.rec (motive := fun _ => α → F5 α → F5 α) (fun a b c d e x t => N8.mod a (N8.mod b (N8.mod c (N8.mod d (N8.mod e (fun _ => x))))) t) i x t
def rep5 {α : Type} (x : α) : F5 α := N8.rep (N8.rep (N8.rep (N8.rep (N8.rep x))))
theorem get_set5 {α : Type} (i j : Id) (x : α) (t : F5 α) : get5 j (set5 i x t) = if i = j then x else get5 j t := by
  obtain ⟨a, b, c, d, e⟩ := i; obtain ⟨a', b', c', d', e'⟩ := j
  simp only [get5, set5, N8.get_mod, Id.mk.injEq]
  by_cases h1 : a = a' <;> by_cases h2 : b = b' <;> by_cases h3 : c = c' <;> by_cases h4 : d = d' <;> by_cases h5 : e = e' <;> simp [h1, h2, h3, h4, h5, N8.get_mod]
theorem get_rep5 {α : Type} (i : Id) (x : α) : get5 i (rep5 x) = x := by
  obtain ⟨a, b, c, d, e⟩ := i
  simp only [get5, rep5, N8.get_rep]

/-- A choice by a Bool, ready for the kernel. -/
@[reducible] def ite8 {α : Sort _} (c : Bool) (x y : α) : α := Bool.rec (motive := fun _ => α) y x c
@[simp] theorem ite8_true {α : Sort _} (x y : α) : ite8 true x y = x := rfl
@[simp] theorem ite8_false {α : Sort _} (x y : α) : ite8 false x y = y := rfl

/-- A row of cells by their places. -/
inductive T (α : Type) where
  | nil
  | node (v : Option α) (l r : T α)
def T.get {α : Type} (t : T α) : Nat → Option α :=
  T.rec (motive := fun _ => Nat → Option α) (fun _ => none)
    (fun v _ _ gl gr k => ite8 (Nat.beq k 0) v (ite8 (Nat.beq (Nat.mod k 2) 1) (gl (Nat.div k 2)) (gr (Nat.sub (Nat.div k 2) 1)))) t
def T.sing {α : Type} (a : α) (fuel : Nat) : Nat → T α :=
  Nat.rec (motive := fun _ => Nat → T α) (fun _ => .node (some a) .nil .nil)
    (fun _ ih k => ite8 (Nat.beq k 0) (.node (some a) .nil .nil) (ite8 (Nat.beq (Nat.mod k 2) 1) (.node none (ih (Nat.div k 2)) .nil) (.node none .nil (ih (Nat.sub (Nat.div k 2) 1))))) fuel
def T.set {α : Type} (a : α) (t : T α) : Nat → T α :=
  T.rec (motive := fun _ => Nat → T α) (fun k => T.sing a k k)
    (fun v l r sl sr k => ite8 (Nat.beq k 0) (.node (some a) l r) (ite8 (Nat.beq (Nat.mod k 2) 1) (.node v (sl (Nat.div k 2)) r) (.node v l (sr (Nat.sub (Nat.div k 2) 1))))) t
theorem T.get_nil {α : Type} (k : Nat) : (T.nil : T α).get k = none := rfl
theorem T.get_node {α : Type} (v : Option α) (l r : T α) (k : Nat) :
    (T.node v l r).get k = if k = 0 then v else if k % 2 = 1 then l.get (k / 2) else r.get (k / 2 - 1) := by
  show ite8 (Nat.beq k 0) v (ite8 (Nat.beq (Nat.mod k 2) 1) (l.get (Nat.div k 2)) (r.get (Nat.sub (Nat.div k 2) 1))) = _
  have e1 : Nat.beq k 0 = decide (k = 0) := by rw [Bool.eq_iff_iff]; simp
  have e2 : Nat.beq (Nat.mod k 2) 1 = decide (k % 2 = 1) := by rw [Bool.eq_iff_iff]; simp; exact Iff.rfl
  rw [e1, e2]
  by_cases h : k = 0
  · simp [h]
  · by_cases h2 : k % 2 = 1
    · simp only [h, h2, decide_true, decide_false, if_false, if_true]; rfl
    · simp only [h, h2, decide_false, if_false]; rfl
theorem T.set_node {α : Type} (a : α) (v : Option α) (l r : T α) (k : Nat) :
    (T.node v l r).set a k = if k = 0 then .node (some a) l r else if k % 2 = 1 then .node v (l.set a (k / 2)) r else .node v l (r.set a (k / 2 - 1)) := by
  show ite8 (Nat.beq k 0) _ (ite8 (Nat.beq (Nat.mod k 2) 1) _ _) = _
  have e1 : Nat.beq k 0 = decide (k = 0) := by rw [Bool.eq_iff_iff]; simp
  have e2 : Nat.beq (Nat.mod k 2) 1 = decide (k % 2 = 1) := by rw [Bool.eq_iff_iff]; simp; exact Iff.rfl
  rw [e1, e2]
  by_cases h : k = 0
  · simp [h]
  · by_cases h2 : k % 2 = 1
    · simp only [h, h2, decide_true, decide_false, if_false, if_true]; rfl
    · simp only [h, h2, decide_false, if_false]; rfl
theorem T.sing_succ {α : Type} (a : α) (n k : Nat) :
    T.sing a (n + 1) k = if k = 0 then .node (some a) .nil .nil else if k % 2 = 1 then .node none (T.sing a n (k / 2)) .nil else .node none .nil (T.sing a n (k / 2 - 1)) := by
  show ite8 (Nat.beq k 0) _ (ite8 (Nat.beq (Nat.mod k 2) 1) _ _) = _
  have e1 : Nat.beq k 0 = decide (k = 0) := by rw [Bool.eq_iff_iff]; simp
  have e2 : Nat.beq (Nat.mod k 2) 1 = decide (k % 2 = 1) := by rw [Bool.eq_iff_iff]; simp; exact Iff.rfl
  rw [e1, e2]
  by_cases h : k = 0
  · simp [h]
  · by_cases h2 : k % 2 = 1
    · simp only [h, h2, decide_true, decide_false, if_false, if_true]; rfl
    · simp only [h, h2, decide_false, if_false]; rfl
theorem T.get_sing {α : Type} (a : α) : ∀ (n k j : Nat), k ≤ n → (T.sing a n k).get j = if k = j then some a else none := by
  intro n
  induction n with
  | zero =>
    intro k j h
    have : k = 0 := by omega
    subst this
    show (T.node (some a) .nil .nil).get j = _
    rw [T.get_node]
    by_cases hj : j = 0
    · simp [hj]
    · rw [if_neg hj, if_neg (Ne.symm hj)]; split <;> rfl
  | succ n ih =>
    intro k j h
    rw [T.sing_succ]
    by_cases hk : k = 0
    · subst hk
      rw [if_pos rfl, T.get_node]
      by_cases hj : j = 0
      · simp [hj]
      · rw [if_neg hj, if_neg (Ne.symm hj)]; split <;> rfl
    · rw [if_neg hk]
      by_cases h2 : k % 2 = 1
      · rw [if_pos h2, T.get_node]
        by_cases hj : j = 0
        · rw [if_pos hj, if_neg (by omega)]
        · rw [if_neg hj]
          by_cases hj2 : j % 2 = 1
          · rw [if_pos hj2, ih _ _ (by omega)]
            by_cases e : k = j
            · rw [if_pos e, if_pos (by omega)]
            · rw [if_neg e, if_neg (by omega)]
          · rw [if_neg hj2, if_neg (by omega)]; rfl
      · rw [if_neg h2, T.get_node]
        by_cases hj : j = 0
        · rw [if_pos hj, if_neg (by omega)]
        · rw [if_neg hj]
          by_cases hj2 : j % 2 = 1
          · rw [if_pos hj2, if_neg (by omega)]; rfl
          · rw [if_neg hj2, ih _ _ (by omega)]
            by_cases e : k = j
            · rw [if_pos e, if_pos (by omega)]
            · rw [if_neg e, if_neg (by omega)]
theorem T.get_set {α : Type} (a : α) (t : T α) : ∀ (k j : Nat), (t.set a k).get j = if k = j then some a else t.get j := by
  induction t with
  | nil => intro k j; exact T.get_sing a k k j (Nat.le_refl _)
  | node v l r hl hr =>
    intro k j
    rw [T.set_node]
    by_cases hk : k = 0
    · subst hk
      rw [if_pos rfl, T.get_node, T.get_node]
      by_cases hj : j = 0
      · simp [hj]
      · rw [if_neg hj, if_neg (Ne.symm hj), if_neg hj]
    · rw [if_neg hk]
      by_cases h2 : k % 2 = 1
      · rw [if_pos h2, T.get_node, T.get_node]
        by_cases hj : j = 0
        · rw [if_pos hj, if_neg (by omega), if_pos hj]
        · rw [if_neg hj, if_neg hj]
          by_cases hj2 : j % 2 = 1
          · rw [if_pos hj2, if_pos hj2, hl]
            by_cases e : k = j
            · rw [if_pos e, if_pos (by omega)]
            · rw [if_neg e, if_neg (by omega)]
          · rw [if_neg hj2, if_neg hj2, if_neg (by omega)]
      · rw [if_neg h2, T.get_node, T.get_node]
        by_cases hj : j = 0
        · rw [if_pos hj, if_neg (by omega), if_pos hj]
        · rw [if_neg hj, if_neg hj]
          by_cases hj2 : j % 2 = 1
          · rw [if_pos hj2, if_pos hj2, if_neg (by omega)]
          · rw [if_neg hj2, if_neg hj2, hr]
            by_cases e : k = j
            · rw [if_pos e, if_pos (by omega)]
            · rw [if_neg e, if_neg (by omega)]
end
end Go.Dk
namespace Go.Dk
noncomputable section

/-- Values: as Go's, but that blocks have abstract numbers, strings are lists of bytes' numbers, and a slice's capacity may not be known. 'pend': a number of which is known alone what a row of operations makes of it. -/
inductive AV where
  | bool (b : Bool)
  | int (k : IntKind) (n : Int)
  | str (l : List Nat)
  | ptr (b : Id) (o : Nat)
  | nilp
  | slice (b : Id) (o len es : Nat) (cap : Option Nat)
  | nils
  | map (b : Id)
  | nilm
  | func (f : FuncId) (first captured : List AV)
  | nilf
  | iface (t : TypeId) (v : AV)
  | nili
  | agg (l : List AV)
  | tup (l : List AV)
  | pend (k : IntKind) (ops : List (BinOp × Int)) (r : Int)

def uv : AV := .tup []

/-- What an AV is, asked for one kind. -/
def AV.asPtr {α : Type} (no : α) (k : Id → Nat → α) (v : AV) : α :=
  AV.rec (motive_1 := fun _ => α) (motive_2 := fun _ => Unit) (fun _ => no) (fun _ _ => no) (fun _ => no) k no (fun _ _ _ _ _ => no) no (fun _ => no) no (fun _ _ _ _ _ => no) no (fun _ _ _ => no) no (fun _ _ => no) (fun _ _ => no) (fun _ _ _ => no) () (fun _ _ _ _ => ()) v
def AV.asBool {α : Type} (no : α) (k : Bool → α) (v : AV) : α :=
  AV.rec (motive_1 := fun _ => α) (motive_2 := fun _ => Unit) k (fun _ _ => no) (fun _ => no) (fun _ _ => no) no (fun _ _ _ _ _ => no) no (fun _ => no) no (fun _ _ _ _ _ => no) no (fun _ _ _ => no) no (fun _ _ => no) (fun _ _ => no) (fun _ _ _ => no) () (fun _ _ _ _ => ()) v
def AV.asInt {α : Type} (no : α) (k : IntKind → Int → α) (v : AV) : α :=
  AV.rec (motive_1 := fun _ => α) (motive_2 := fun _ => Unit) (fun _ => no) k (fun _ => no) (fun _ _ => no) no (fun _ _ _ _ _ => no) no (fun _ => no) no (fun _ _ _ _ _ => no) no (fun _ _ _ => no) no (fun _ _ => no) (fun _ _ => no) (fun _ _ _ => no) () (fun _ _ _ _ => ()) v
def AV.asStr {α : Type} (no : α) (k : List Nat → α) (v : AV) : α :=
  AV.rec (motive_1 := fun _ => α) (motive_2 := fun _ => Unit) (fun _ => no) (fun _ _ => no) k (fun _ _ => no) no (fun _ _ _ _ _ => no) no (fun _ => no) no (fun _ _ _ _ _ => no) no (fun _ _ _ => no) no (fun _ _ => no) (fun _ _ => no) (fun _ _ _ => no) () (fun _ _ _ _ => ()) v
/-- The cells of a value: an aggregate's parts, else itself. -/
def AV.cells (v : AV) : List AV :=
  AV.rec (motive_1 := fun _ => List AV) (motive_2 := fun _ => Unit) (fun b => [.bool b]) (fun k n => [.int k n]) (fun l => [.str l]) (fun b o => [.ptr b o]) [.nilp] (fun b o n es c => [.slice b o n es c]) [.nils] (fun b => [.map b]) [.nilm] (fun f x y _ _ => [.func f x y]) [.nilf] (fun t v _ => [.iface t v]) [.nili] (fun l _ => l) (fun l _ => [.tup l]) (fun k o r => [.pend k o r]) () (fun _ _ _ _ => ()) v

/-- The cells of a value that is no tuple. -/
def AV.asCells {α : Type} (no : α) (k : List AV → α) (v : AV) : α :=
  AV.rec (motive_1 := fun _ => α) (motive_2 := fun _ => Unit) (fun b => k [.bool b]) (fun kd n => k [.int kd n]) (fun l => k [.str l]) (fun b o => k [.ptr b o]) (k [.nilp]) (fun b o n es c => k [.slice b o n es c]) (k [.nils]) (fun b => k [.map b]) (k [.nilm]) (fun f x y _ _ => k [.func f x y]) (k [.nilf]) (fun t v _ => k [.iface t v]) (k [.nili]) (fun l _ => k l) (fun _ _ => no) (fun kd o r => k [.pend kd o r]) () (fun _ _ _ _ => ()) v
/-- Plain kinds: numbers, strings, truths. -/
inductive PK where
  | i | s | b
deriving DecidableEq
/-- Kinds of keys: plain, or rows of plain cells. -/
inductive KT where
  | prim (p : PK)
  | flat (ps : List PK)
deriving DecidableEq
/-- Blocks: cells (how many are known), a map's entries, a walk over a string. -/
inductive Blk where
  | cells (c : T AV) (n : Nat)
  | map (kt : KT) (l : List (AV × AV))
  | iter (l : List Nat) (pos : Nat)

/-- Memory: the next block's number, and the blocks. -/
structure H where
  n : Id
  m : F5 (Option Blk)

def H.blk (b : Id) (σ : H) : Option Blk := H.rec (motive := fun _ => Option Blk) (fun _ m => get5 b m) σ
def H.put (b : Id) (x : Option Blk) (σ : H) : H := H.rec (motive := fun _ => H) (fun n m => ⟨n, set5 b x m⟩) σ
/-- A new block: memory behind it, and its number. -/
def H.new {α : Type} (no : α) (k : Id → H → α) (x : Blk) (σ : H) : α :=
  H.rec (motive := fun _ => α) (fun n m => Option.rec (motive := fun _ => α) no (fun n' => k n ⟨n', set5 n (some x) m⟩) n.succ) σ
/-- The cells of block b. -/
def H.row {α : Type} (no : α) (k : T AV → Nat → α) (b : Id) (σ : H) : α :=
  Option.rec (motive := fun _ => α) no (fun x => Blk.rec (motive := fun _ => α) k (fun _ _ => no) (fun _ _ => no) x) (σ.blk b)

/-- n cells from place o on. -/
def T.take {α : Type} (t : T α) (n : Nat) : Nat → Option (List α) :=
  Nat.rec (motive := fun _ => Nat → Option (List α)) (fun _ => some [])
    (fun _ ih o => Option.rec (motive := fun _ => Option (List α)) none (fun v => Option.rec (motive := fun _ => Option (List α)) none (fun l => some (v :: l)) (ih (Nat.succ o))) (t.get o)) n
/-- Cells laid from place o on, whatever stood there. -/
def T.lay {α : Type} (l : List α) : Nat → T α → T α :=
  List.rec (motive := fun _ => Nat → T α → T α) (fun _ t => t) (fun v _ ih o t => ih (Nat.succ o) (t.set v o)) l
/-- Cells laid from place o on, where cells are. -/
def T.over {α : Type} (l : List α) : Nat → T α → Option (T α) :=
  List.rec (motive := fun _ => Nat → T α → Option (T α)) (fun _ t => some t)
    (fun v _ ih o t => Option.rec (motive := fun _ => Option (T α)) none (fun _ => ih (Nat.succ o) (t.set v o)) (t.get o)) l

def len8 {α : Type} (l : List α) : Nat := List.rec (motive := fun _ => Nat) 0 (fun _ _ ih => Nat.succ ih) l
def nth8 {α : Type} (l : List α) : Nat → Option α :=
  List.rec (motive := fun _ => Nat → Option α) (fun _ => none) (fun x _ ih k => Nat.rec (motive := fun _ => Option α) (some x) (fun k _ => ih k) k) l
def drop8 {α : Type} (n : Nat) : List α → List α :=
  Nat.rec (motive := fun _ => List α → List α) (fun l => l) (fun _ ih l => List.rec (motive := fun _ => List α) [] (fun _ l _ => ih l) l) n
/-- The first n; none if there are fewer. -/
def take8 {α : Type} (n : Nat) : List α → Option (List α) :=
  Nat.rec (motive := fun _ => List α → Option (List α)) (fun _ => some [])
    (fun _ ih l => List.rec (motive := fun _ => Option (List α)) none (fun x l _ => Option.rec (motive := fun _ => Option (List α)) none (fun r => some (x :: r)) (ih l)) l) n
def app8 {α : Type} (l r : List α) : List α := List.rec (motive := fun _ => List α) r (fun x _ ih => x :: ih) l
/-- r laid over z from place n on; none if it does not fit. -/
def lay8 {α : Type} (r : List α) (n : Nat) : List α → Option (List α) :=
  Nat.rec (motive := fun _ => List α → Option (List α))
    (fun z => List.rec (motive := fun _ => List α → Option (List α)) (fun z => some z) (fun x _ ih z => List.rec (motive := fun _ => Option (List α)) none (fun _ z _ => Option.rec (motive := fun _ => Option (List α)) none (fun q => some (x :: q)) (ih z)) z) r z)
    (fun _ ih z => List.rec (motive := fun _ => Option (List α)) none (fun y z _ => Option.rec (motive := fun _ => Option (List α)) none (fun q => some (y :: q)) (ih z)) z) n

/-- Operands. -/
inductive AX where
  | t (i : I3)
  | c (v : AV)
abbrev Fr := F3 AV
def ev (τ : Fr) (x : AX) : AV := AX.rec (motive := fun _ => AV) (fun i => get3 i τ) (fun v => v) x
def evs (τ : Fr) (l : List AX) : List AV := List.rec (motive := fun _ => List AV) [] (fun x _ ih => ev τ x :: ih) l

/-- Whose length. -/
inductive LK where
  | str | sli | map
/-- What two values are held against each other by. -/
inductive Cls where
  | bool | ptr | slice | map | func | iface | flat (ps : List PK)
/-- Operations. -/
inductive AO where
  | mv (x : AX)
  | pick (c a b : AX)
  | box (rsv : Option Nat) (x : AX)
  | build (z : List AV) (ps : List (Nat × Nat × AX))
  | buildS (rsv : Option Nat) (es len : Nat) (z : List AV) (ps : List (Nat × Nat × AX))
  | load (n : Option Nat) (x : AX)
  | store (n : Nat) (a x : AX)
  | nilck (x : AX)
  | bin (op : BinOp) (x y : AX)
  | eq (neg : Bool) (c : Cls) (x y : AX)
  | un (op : UnOp) (x : AX)
  | convI (k : IntKind) (x : AX)
  | convSS (x : AX)
  | convSB (x : AX)
  | convBS (x : AX)
  | mkif (t : TypeId) (x : AX)
  | mkfn (f : FuncId) (xs ys : List AX)
  | field (off : Nat) (n : Option Nat) (x : AX)
  | fieldA (off : Nat) (x : AX)
  | idxA (arr : Option Nat) (es : Nat) (x i : AX)
  | idxV (len es : Nat) (n : Option Nat) (x i : AX)
  | idxS (x i : AX)
  | sliS (x : AX) (lo hi : Option AX)
  | sliL (es : Nat) (x : AX) (lo hi mx : Option AX)
  | sliA (n es : Nat) (x : AX) (lo hi mx : Option AX)
  | ext (x : AX) (i : Nat)
  | lenK (n : Nat) (x : AX)
  | len (k : LK) (x : AX)
  | capS (x : AX)
  | app (es bytes : Nat) (s x : AX)
  | copy (es : Nat) (d s : AX)
  | min2 (x y : AX)
  | max2 (x y : AX)
  | mkS (es : Nat) (bytes : Nat) (z : List AV) (len cap : AX)
  | mkM (kt : KT)
  | look (kt : KT) (z : AV) (ok : Bool) (x i : AX)
  | upd (kt : KT) (m i x : AX)
  | rangeS (x : AX)
  | nextS (x : AX)
  | callF (k : I3) (xs : List AX)
  | callV (x : AX) (xs : List AX)
  | ghost (g : Nat) (x : AX)
/-- An operation in its place. -/
structure AR where
  dst : Option I3
  guard : Option (I3 × Bool)
  op : AO
/-- Code. -/
inductive AC where
  | skip
  | ops (l : List AR)
  | reg (rsv : Nat) (chk : List (Nat × List Nat)) (l : List AR)
  | seq (a b : AC)
  | cond (x : AX) (a b : AC)
  | block (id : Nat) (a : AC)
  | loop (a : AC)
  | exit (id : Nat)
  | ret
inductive RV where
  | tmp (i : I3)
  | cell (n : Option Nat) (i : I3)
/-- Functions: their code, or a law of what they do. -/
inductive Ent where
  | none
  | code (ps : List I3) (body : AC) (rs : List RV)
  | law (f : List AV → H → Option (AV × H))

/-- What an operation comes to. -/
inductive OR where
  | no
  | ok (v : AV) (σ : H)
  | call (k : I3) (args : List AV)

/-! Numbers -/
def wrapF (k : IntKind) (n : Int) : Int :=
  Int.rec (motive := fun _ => Int) (fun a => ite8 (Nat.ble a 127) (.ofNat a) (k.wrap (.ofNat a))) (fun a => k.wrap (.negSucc a)) n
def iadd (x y : Int) : Int :=
  Int.rec (motive := fun _ => Int) (fun a => Int.rec (motive := fun _ => Int) (fun b => .ofNat (Nat.add a b)) (fun b => Int.add (.ofNat a) (.negSucc b)) y) (fun a => Int.add (.negSucc a) y) x
def ilt (x y : Int) : Bool :=
  Int.rec (motive := fun _ => Bool) (fun a => Int.rec (motive := fun _ => Bool) (fun b => Nat.ble (Nat.succ a) b) (fun _ => false) y)
    (fun a => Int.rec (motive := fun _ => Bool) (fun _ => true) (fun b => Nat.ble (Nat.succ b) a) y) x
def ieq (x y : Int) : Bool :=
  Int.rec (motive := fun _ => Bool) (fun a => Int.rec (motive := fun _ => Bool) (fun b => Nat.beq a b) (fun _ => false) y)
    (fun a => Int.rec (motive := fun _ => Bool) (fun _ => false) (fun b => Nat.beq a b) y) x
def not8 (b : Bool) : Bool := ite8 b false true
def ile (x y : Int) : Bool := not8 (ilt y x)
/-- Two numbers of one kind. -/
def ibits (op : BinOp) (k : IntKind) (x y : Int) : Option Int :=
  let a := BitVec.ofInt k.bits x
  let b := BitVec.ofInt k.bits y
  match op with
  | .and => some (k.wrap (a &&& b).toNat)
  | .or => some (k.wrap (a ||| b).toNat)
  | .xor => some (k.wrap (a ^^^ b).toNat)
  | .andNot => some (k.wrap (a &&& ~~~b).toNat)
  | _ => none
def oint (k : IntKind) (o : Option Int) : Option AV := Option.rec (motive := fun _ => Option AV) none (fun n => some (.int k n)) o
def ibin (op : BinOp) (k : IntKind) (x y : Int) : Option AV :=
  BinOp.rec (motive := fun _ => Option AV)
    (some (.int k (wrapF k (iadd x y)))) (some (.int k (wrapF k (x - y)))) (some (.int k (wrapF k (x * y))))
    (ite8 (ieq y 0) none (some (.int k (wrapF k (x.tdiv y))))) (ite8 (ieq y 0) none (some (.int k (x.tmod y))))
    (oint k (ibits .and k x y)) (oint k (ibits .or k x y)) (oint k (ibits .xor k x y)) none none (oint k (ibits .andNot k x y))
    (some (.bool (ieq x y))) (some (.bool (not8 (ieq x y)))) (some (.bool (ilt x y))) (some (.bool (ile x y))) (some (.bool (ilt y x))) (some (.bool (ile y x))) op
def ishift (op : BinOp) (k : IntKind) (x y : Int) : Option AV :=
  if y < 0 then none else
    match op with
    | .shl => some (.int k (k.wrap (x * 2 ^ min y.toNat k.bits)))
    | .shr => some (.int k (x.fdiv (2 ^ min y.toNat k.bits)))
    | _ => none
def isShift (op : BinOp) : Bool := BinOp.rec (motive := fun _ => Bool) false false false false false false false false true true false false false false false false false op
def keq (a b : IntKind) : Bool :=
  IntKind.rec (motive := fun _ => Bool) (IntKind.rec (motive := fun _ => Bool) true false false false false false false false b) (IntKind.rec (motive := fun _ => Bool) false true false false false false false false b) (IntKind.rec (motive := fun _ => Bool) false false true false false false false false b) (IntKind.rec (motive := fun _ => Bool) false false false true false false false false b)
    (IntKind.rec (motive := fun _ => Bool) false false false false true false false false b) (IntKind.rec (motive := fun _ => Bool) false false false false false true false false b) (IntKind.rec (motive := fun _ => Bool) false false false false false false true false b) (IntKind.rec (motive := fun _ => Bool) false false false false false false false true b) a
/-! Strings -/
def seq8 (l : List Nat) : List Nat → Bool :=
  List.rec (motive := fun _ => List Nat → Bool) (fun r => List.rec (motive := fun _ => Bool) true (fun _ _ _ => false) r)
    (fun x _ ih r => List.rec (motive := fun _ => Bool) false (fun y r _ => ite8 (Nat.beq x y) (ih r) false) r) l
def slt8 (l : List Nat) : List Nat → Bool :=
  List.rec (motive := fun _ => List Nat → Bool) (fun r => List.rec (motive := fun _ => Bool) false (fun _ _ _ => true) r)
    (fun x _ ih r => List.rec (motive := fun _ => Bool) false (fun y r _ => ite8 (Nat.beq x y) (ih r) (Nat.ble x y)) r) l
/-- A string of a length that is sure to be a number. -/
def capS8 (l : List Nat) : Option AV := ite8 (Nat.ble (len8 l) 1099511627776) (some (.str l)) none
def sbin (op : BinOp) (l r : List Nat) : Option AV :=
  BinOp.rec (motive := fun _ => Option AV) (capS8 (app8 l r)) none none none none none none none none none none
    (some (.bool (seq8 l r))) (some (.bool (not8 (seq8 l r)))) (some (.bool (slt8 l r))) (some (.bool (not8 (slt8 r l)))) (some (.bool (slt8 r l))) (some (.bool (not8 (slt8 l r)))) op
/-! Held against each other -/
/-- Two one-cell values of a plain kind. -/
def flat1 (p : PK) (x y : AV) : Option Bool :=
  PK.rec (motive := fun _ => Option Bool) (x.asInt none fun k a => y.asInt none fun k' b => ite8 (keq k k') (some (ieq a b)) none)
    (x.asStr none fun a => y.asStr none fun b => some (seq8 a b)) (x.asBool none fun a => y.asBool none fun b => some (ite8 a b (not8 b))) p
def flats (ps : List PK) : List AV → List AV → Option Bool :=
  List.rec (motive := fun _ => List AV → List AV → Option Bool) (fun l r => List.rec (motive := fun _ => Option Bool) (List.rec (motive := fun _ => Option Bool) (some true) (fun _ _ _ => none) r) (fun _ _ _ => none) l)
    (fun p _ ih l r => List.rec (motive := fun _ => Option Bool) none (fun x l _ => List.rec (motive := fun _ => Option Bool) none (fun y r _ => Option.rec (motive := fun _ => Option Bool) none (fun e => ite8 e (ih l r) (ite8 (Nat.beq (len8 l) (len8 r)) (some false) none)) (flat1 p x y)) r) l) ps
def ideq (a b : Id) : Bool := Nat.beq a.num b.num
/-- '==' by kinds. -/
def eqPtr (x y : AV) : Option Bool :=
  match x, y with
  | .nilp, .nilp => some true
  | .nilp, .ptr _ _ => some false
  | .ptr _ _, .nilp => some false
  | .ptr a o, .ptr b q => if a = b then some (Nat.beq o q) else none
  | _, _ => none
def eqSlice (x y : AV) : Option Bool :=
  match x, y with
  | .nils, .nils => some true
  | .nils, .slice _ _ _ _ _ => some false
  | .slice _ _ _ _ _, .nils => some false
  | _, _ => none
def eqMap (x y : AV) : Option Bool :=
  match x, y with
  | .nilm, .nilm => some true
  | .nilm, .map _ => some false
  | .map _, .nilm => some false
  | _, _ => none
def eqFunc (x y : AV) : Option Bool :=
  match x, y with
  | .nilf, .nilf => some true
  | .nilf, .func _ _ _ => some false
  | .func _ _ _, .nilf => some false
  | _, _ => none
def eqIface (x y : AV) : Option Bool :=
  match x, y with
  | .nili, .nili => some true
  | .nili, .iface _ _ => some false
  | .iface _ _, .nili => some false
  | _, _ => none
def eqFlat (ps : List PK) (x y : AV) : Option Bool :=
  match x, y with
  | .agg l, .agg r => flats ps l r
  | _, _ => none
def eqv (c : Cls) (x y : AV) : Option Bool :=
  match c with
  | .bool => flat1 .b x y
  | .ptr => eqPtr x y
  | .slice => eqSlice x y
  | .map => eqMap x y
  | .func => eqFunc x y
  | .iface => eqIface x y
  | .flat ps => eqFlat ps x y
/-! Operations: each by itself, closed -/
def ok? (σ : H) (o : Option AV) : OR := Option.rec (motive := fun _ => OR) .no (fun v => .ok v σ) o
def hMv (x : AX) (_ : Id) (τ : Fr) (σ : H) : OR := .ok (ev τ x) σ
def hPick (c a b : AX) (_ : Id) (τ : Fr) (σ : H) : OR := (ev τ c).asBool .no fun t => .ok (ite8 t (ev τ a) (ev τ b)) σ
/-- The n-th number behind. -/
def Id.plus (i : Id) (n : Nat) : Option Id :=
  Nat.rec (motive := fun _ => Option Id) (some i) (fun _ ih => Option.rec (motive := fun _ => Option Id) none (fun j => j.succ) ih) n
/-- A new block: of its own number, or of the number that was kept for it. -/
def newB (rsv : Option Nat) (base : Id) (x : Blk) (k : Id → AV) (σ : H) : OR :=
  Option.rec (motive := fun _ => OR) (σ.new .no (fun b σ => .ok (k b) σ) x)
    (fun j => Option.rec (motive := fun _ => OR) .no (fun b => .ok (k b) (σ.put b (some x))) (base.plus j)) rsv
def cellsB (l : List AV) : Blk := .cells (T.lay l 0 .nil) (len8 l)
def hBox (rsv : Option Nat) (x : AX) (base : Id) (τ : Fr) (σ : H) : OR := (ev τ x).asCells .no fun l => newB rsv base (cellsB l) (fun b => .ptr b 0) σ
def fillP (τ : Fr) (ps : List (Nat × Nat × AX)) : List AV → Option (List AV) :=
  List.rec (motive := fun _ => List AV → Option (List AV)) (fun z => some z)
    (fun p _ ih z => Prod.rec (motive := fun _ => Option (List AV)) (fun o q => Prod.rec (motive := fun _ => Option (List AV)) (fun n x =>
      (ev τ x).asCells none fun l => ite8 (Nat.beq (len8 l) n) (Option.rec (motive := fun _ => Option (List AV)) none (fun z => ih z) (lay8 l o z)) none) q) p) ps
def hBuild (z : List AV) (ps : List (Nat × Nat × AX)) (_ : Id) (τ : Fr) (σ : H) : OR := Option.rec (motive := fun _ => OR) .no (fun l => .ok (.agg l) σ) (fillP τ ps z)
def hBuildS (rsv : Option Nat) (es len : Nat) (z : List AV) (ps : List (Nat × Nat × AX)) (base : Id) (τ : Fr) (σ : H) : OR :=
  Option.rec (motive := fun _ => OR) .no (fun l => newB rsv base (cellsB l) (fun b => .slice b 0 len es (some len)) σ) (fillP τ ps z)
def hLoad (n : Option Nat) (x : AX) (_ : Id) (τ : Fr) (σ : H) : OR :=
  (ev τ x).asPtr .no fun b o => σ.row .no (fun c _ => Option.rec (motive := fun _ => OR) (ok? σ (c.get o)) (fun n => Option.rec (motive := fun _ => OR) .no (fun l => .ok (.agg l) σ) (c.take n o)) n) b
def hStore (n : Nat) (a x : AX) (_ : Id) (τ : Fr) (σ : H) : OR :=
  (ev τ a).asPtr .no fun b o => (ev τ x).asCells .no fun l => ite8 (Nat.beq (len8 l) n)
    (σ.row .no (fun c m => Option.rec (motive := fun _ => OR) .no (fun c' => .ok uv (σ.put b (some (.cells c' m)))) (T.over l o c)) b) .no
def hNilck (x : AX) (_ : Id) (τ : Fr) (σ : H) : OR := (ev τ x).asPtr .no fun b o => .ok (.ptr b o) σ
def pbin (op : BinOp) (k : IntKind) (ops : List (BinOp × Int)) (r : Int) (y : AV) : Option AV :=
  match ops, y with
  | (o, c) :: rest, .int k' n => if o = op ∧ k = k' ∧ n = c then (match rest with | [] => some (.int k r) | _ => some (.pend k rest r)) else none
  | _, _ => none
def hBin (op : BinOp) (x y : AX) (_ : Id) (τ : Fr) (σ : H) : OR :=
  ok? σ (AV.rec (motive_1 := fun _ => Option AV) (motive_2 := fun _ => Unit) (fun _ => none)
    (fun k a => (ev τ y).asInt none fun k' b => ite8 (isShift op) (ishift op k a b) (ite8 (keq k k') (ibin op k a b) none)) (fun a => (ev τ y).asStr none fun b => sbin op a b)
    (fun _ _ => none) none (fun _ _ _ _ _ => none) none (fun _ => none) none (fun _ _ _ _ _ => none) none (fun _ _ _ => none) none (fun _ _ => none) (fun _ _ => none) (fun k o r => pbin op k o r (ev τ y)) () (fun _ _ _ _ => ()) (ev τ x))
def hEq (neg : Bool) (c : Cls) (x y : AX) (_ : Id) (τ : Fr) (σ : H) : OR :=
  Option.rec (motive := fun _ => OR) .no (fun e => .ok (.bool (ite8 neg (not8 e) e)) σ) (eqv c (ev τ x) (ev τ y))
def hUn (op : UnOp) (x : AX) (_ : Id) (τ : Fr) (σ : H) : OR :=
  match op, ev τ x with
  | .neg, .int k n => .ok (.int k (k.wrap (0 - n))) σ
  | .not, .bool b => .ok (.bool (not8 b)) σ
  | _, _ => .no
def hConvI (k : IntKind) (x : AX) (_ : Id) (τ : Fr) (σ : H) : OR := (ev τ x).asInt .no fun _ n => .ok (.int k (wrapF k n)) σ
def hConvSS (x : AX) (_ : Id) (τ : Fr) (σ : H) : OR := (ev τ x).asStr .no fun l => .ok (.str l) σ
def map8 {α β : Type} (f : α → β) (l : List α) : List β := List.rec (motive := fun _ => List β) [] (fun x _ ih => f x :: ih) l
def hConvSB (x : AX) (_ : Id) (τ : Fr) (σ : H) : OR :=
  (ev τ x).asStr .no fun l => σ.new .no (fun b σ => .ok (.slice b 0 (len8 l) 1 none) σ) (cellsB (map8 (fun n => .int .u8 (.ofNat n)) l))
def bytesOf (l : List AV) : Option (List Nat) :=
  List.rec (motive := fun _ => Option (List Nat)) (some []) (fun v _ ih => v.asInt none fun k n => Int.rec (motive := fun _ => Option (List Nat)) (fun a => ite8 (keq k .u8) (ite8 (Nat.ble a 255) (Option.rec (motive := fun _ => Option (List Nat)) none (fun r => some (a :: r)) ih) none) none) (fun _ => none) n) l
def hConvBS (x : AX) (_ : Id) (τ : Fr) (σ : H) : OR :=
  match ev τ x with
  | .nils => .ok (.str []) σ
  | .slice b o n _ _ => σ.row .no (fun c _ => match c.take n o with | some l => (match bytesOf l with | some s => .ok (.str s) σ | none => .no) | none => .no) b
  | _ => .no
def hMkif (t : TypeId) (x : AX) (_ : Id) (τ : Fr) (σ : H) : OR := .ok (.iface t (ev τ x)) σ
def hMkfn (f : FuncId) (xs ys : List AX) (_ : Id) (τ : Fr) (σ : H) : OR := .ok (.func f (evs τ xs) (evs τ ys)) σ
/-- A part of an aggregate. -/
def partA (n : Option Nat) (l : List AV) (off : Nat) : Option AV :=
  Option.rec (motive := fun _ => Option AV) (nth8 l off) (fun n => Option.rec (motive := fun _ => Option AV) none (fun r => some (.agg r)) (take8 n (drop8 off l))) n
def hField (off : Nat) (n : Option Nat) (x : AX) (_ : Id) (τ : Fr) (σ : H) : OR :=
  match ev τ x with | .agg l => ok? σ (partA n l off) | _ => .no
def hFieldA (off : Nat) (x : AX) (_ : Id) (τ : Fr) (σ : H) : OR := (ev τ x).asPtr .no fun b o => .ok (.ptr b (Nat.add o off)) σ
/-- A number as an index below n. -/
def below (v : AV) (n : Nat) (k : Nat → OR) : OR := v.asInt .no fun _ i => Int.rec (motive := fun _ => OR) (fun a => ite8 (Nat.ble (Nat.succ a) n) (k a) .no) (fun _ => .no) i
def hIdxA (arr : Option Nat) (es : Nat) (x i : AX) (_ : Id) (τ : Fr) (σ : H) : OR :=
  Option.rec (motive := fun _ => OR)
    (AV.rec (motive_1 := fun _ => OR) (motive_2 := fun _ => Unit) (fun _ => .no) (fun _ _ => .no) (fun _ => .no) (fun _ _ => .no) .no
      (fun b o n _ _ => below (ev τ i) n fun k => .ok (.ptr b (Nat.add o (Nat.mul k es))) σ) .no (fun _ => .no) .no (fun _ _ _ _ _ => .no) .no (fun _ _ _ => .no) .no (fun _ _ => .no) (fun _ _ => .no) (fun _ _ _ => .no) () (fun _ _ _ _ => ()) (ev τ x))
    (fun n => (ev τ x).asPtr .no fun b o => below (ev τ i) n fun k => .ok (.ptr b (Nat.add o (Nat.mul k es))) σ) arr
def hIdxV (len es : Nat) (n : Option Nat) (x i : AX) (_ : Id) (τ : Fr) (σ : H) : OR :=
  match ev τ x with | .agg l => below (ev τ i) len fun k => ok? σ (partA n l (k * es)) | _ => .no
def hIdxS (x i : AX) (_ : Id) (τ : Fr) (σ : H) : OR :=
  (ev τ x).asStr .no fun l => (ev τ i).asInt .no fun _ j => Int.rec (motive := fun _ => OR) (fun a => Option.rec (motive := fun _ => OR) .no (fun c => .ok (.int .u8 (.ofNat c)) σ) (nth8 l a)) (fun _ => .no) j
/-- A bound of a slice expression. -/
def bnd (τ : Fr) (x : Option AX) (dflt most : Nat) : Option Nat :=
  Option.rec (motive := fun _ => Option Nat) (some dflt) (fun x => (ev τ x).asInt none fun _ i => Int.rec (motive := fun _ => Option Nat) (fun a => ite8 (Nat.ble a most) (some a) none) (fun _ => none) i) x
def hSliS (x : AX) (lo hi : Option AX) (_ : Id) (τ : Fr) (σ : H) : OR :=
  (ev τ x).asStr .no fun l => match bnd τ hi (len8 l) (len8 l) with
    | some h => (match bnd τ lo 0 h with | some a => (match take8 (h - a) (drop8 a l) with | some r => .ok (.str r) σ | none => .no) | none => .no)
    | none => .no
/-- x[lo:hi:mx] over a row of which c places are known to be there, if 'e', just these. -/
def hSli (b : Id) (o n c es : Nat) (e : Bool) (lo hi mx : Option AX) (τ : Fr) (σ : H) : OR :=
  match bnd τ mx c c with
  | some m => (match bnd τ hi n m with
    | some h => (match bnd τ lo 0 h with
      | some l => if m = l then (if e || mx.isSome then .ok (.slice b o (h - l) es (some (m - l))) σ else .no) else .ok (.slice b (o + l * es) (h - l) es (if e || mx.isSome then some (m - l) else none)) σ
      | none => .no)
    | none => .no)
  | none => .no
def hSliL (es : Nat) (x : AX) (lo hi mx : Option AX) (_ : Id) (τ : Fr) (σ : H) : OR :=
  match ev τ x with
  | .nils => (match bnd τ mx 0 0, bnd τ hi 0 0, bnd τ lo 0 0 with | some _, some _, some _ => .ok .nils σ | _, _, _ => .no)
  | .slice b o n es' (some c) => if es = es' then hSli b o n c es true lo hi mx τ σ else .no
  | .slice b o n es' none => if es = es' then hSli b o n n es false lo hi mx τ σ else .no
  | _ => .no
def hSliA (n es : Nat) (x : AX) (lo hi mx : Option AX) (_ : Id) (τ : Fr) (σ : H) : OR :=
  match ev τ x with
  | .ptr b o => hSli b o n n es true lo hi mx τ σ
  | _ => .no
def hExt (x : AX) (i : Nat) (_ : Id) (τ : Fr) (σ : H) : OR :=
  match ev τ x with | .tup (.tup _ :: _) => .no | .tup l => ok? σ (nth8 l i) | _ => .no
def goI (n : Nat) : AV := .int .i64 (.ofNat n)
def hLenK (n : Nat) (_ : AX) (_ : Id) (_ : Fr) (σ : H) : OR := .ok (goI n) σ
def hLen (k : LK) (x : AX) (_ : Id) (τ : Fr) (σ : H) : OR :=
  match k with
  | .str => (ev τ x).asStr .no fun l => .ok (goI (len8 l)) σ
  | .sli => (match ev τ x with
    | .nils => .ok (goI 0) σ
    | .slice _ _ n _ _ => .ok (goI n) σ
    | _ => .no)
  | .map => (match ev τ x with
    | .nilm => .ok (goI 0) σ
    | .map b => (match σ.blk b with | some (.map _ l) => .ok (goI (len8 l)) σ | _ => .no)
    | _ => .no)
def hCapS (x : AX) (_ : Id) (τ : Fr) (σ : H) : OR :=
  match ev τ x with
  | .nils => .ok (goI 0) σ
  | .slice _ _ _ _ (some c) => .ok (goI c) σ
  | _ => .no
/-- The first n places of what is appended or copied. -/
def firstN (es n : Nat) (x : AV) (σ : H) : Option (List AV) :=
  match x with
  | .nils => some []
  | .slice b o _ _ _ => σ.row none (fun c _ => c.take (n * es) o) b
  | .str l => if es = 1 then (match take8 n l with | some r => some (map8 (fun n => .int .u8 (.ofNat n)) r) | none => none) else none
  | _ => none
def lenA (x : AV) : Option Nat :=
  match x with | .nils => some 0 | .slice _ _ n _ _ => some n | .str l => some (len8 l) | _ => none
def hApp (es bytes : Nat) (s x : AX) (_ : Id) (τ : Fr) (σ : H) : OR :=
  match lenA (ev τ x) with
  | none => .no
  | some k => (match firstN es k (ev τ x) σ with
    | none => .no
    | some xs => (match ev τ s with
      | .nils => if k = 0 then .ok .nils σ else if k * bytes ≤ 2 ^ 40 ∧ k ≤ 2 ^ 40 then σ.new .no (fun b σ => .ok (.slice b 0 k es none) σ) (cellsB xs) else .no
      | .slice b o n es' c => if es ≠ es' then .no else if ¬ ((n + k) * bytes ≤ 2 ^ 40 ∧ n + k ≤ 2 ^ 40) then .no else
        (match c with
        | some c => if n + k ≤ c then (if o = 0 then σ.row .no (fun t m => match T.over xs (n * es) t with | some t' => .ok (.slice b 0 (n + k) es (some c)) (σ.put b (some (.cells t' m))) | none => .no) b else .no)
          else σ.row .no (fun t _ => match t.take (n * es) o with | some old => σ.new .no (fun b' σ => .ok (.slice b' 0 (n + k) es none) σ) (cellsB (app8 old xs)) | none => .no) b
        | none => if k = 0 then .ok (.slice b o n es none) σ else if o = 0 then
            σ.row .no (fun t m => if m = n * es then (σ.put b none).new .no (fun b' σ => .ok (.slice b' 0 (n + k) es none) σ) (.cells (T.lay xs m t) (m + len8 xs)) else .no) b else .no)
      | _ => .no))
def hCopy (es : Nat) (d s : AX) (_ : Id) (τ : Fr) (σ : H) : OR :=
  match lenA (ev τ s), ev τ d with
  | some k, .slice b o n _ _ => (match firstN es (Nat.min k n) (ev τ s) σ with
    | some xs => σ.row .no (fun t m => match T.over xs o t with | some t' => .ok (goI (Nat.min k n)) (σ.put b (some (.cells t' m))) | none => .no) b
    | none => .no)
  | some _, .nils => .ok (goI 0) σ
  | _, _ => .no
def hMin (x y : AX) (_ : Id) (τ : Fr) (σ : H) : OR := (ev τ x).asInt .no fun k a => (ev τ y).asInt .no fun _ b => .ok (.int k (ite8 (ilt b a) b a)) σ
def hMax (x y : AX) (_ : Id) (τ : Fr) (σ : H) : OR := (ev τ x).asInt .no fun k a => (ev τ y).asInt .no fun _ b => .ok (.int k (ite8 (ilt a b) b a)) σ
def rep8 {α : Type} (l : List α) (n : Nat) : List α := Nat.rec (motive := fun _ => List α) [] (fun _ ih => app8 l ih) n
def hMkS (es bytes : Nat) (z : List AV) (l c : AX) (_ : Id) (τ : Fr) (σ : H) : OR :=
  match ev τ l, ev τ c with
  | .int _ (.ofNat l), .int _ (.ofNat c) => if l ≤ c ∧ c * bytes ≤ 2 ^ 40 ∧ c ≤ 2 ^ 40 then σ.new .no (fun b σ => .ok (.slice b 0 l es (some c)) σ) (cellsB (rep8 z c)) else .no
  | _, _ => .no
def hMkM (kt : KT) (_ : Id) (_ : Fr) (σ : H) : OR := σ.new .no (fun b σ => .ok (.map b) σ) (.map kt [])
/-- Two keys. -/
def keyEq (kt : KT) (a b : AV) : Option Bool := KT.rec (motive := fun _ => Option Bool) (fun p => flat1 p a b) (fun ps => eqFlat ps a b) kt
/-- A key's place. -/
def keyAt (kt : KT) (k : AV) (l : List (AV × AV)) : Option (Option AV) :=
  List.rec (motive := fun _ => Option (Option AV)) (some none) (fun p _ ih => match keyEq kt k p.1 with | some true => some (some p.2) | some false => ih | none => none) l
def keyPut (kt : KT) (k v : AV) (l : List (AV × AV)) : List (AV × AV) :=
  List.rec (motive := fun _ => List (AV × AV)) [(k, v)] (fun p r ih => match keyEq kt k p.1 with | some true => (k, v) :: r | _ => p :: ih) l
def hLook (kt : KT) (z : AV) (ok : Bool) (x i : AX) (_ : Id) (τ : Fr) (σ : H) : OR :=
  match keyEq kt (ev τ i) (ev τ i) with
  | some true => (match ev τ x with
    | .nilm => .ok (if ok then .tup [z, .bool false] else z) σ
    | .map b => (match σ.blk b with
      | some (.map kt' l) => if kt ≠ kt' then .no else (match keyAt kt (ev τ i) l with
        | some (some v) => .ok (if ok then .tup [v, .bool true] else v) σ
        | some none => .ok (if ok then .tup [z, .bool false] else z) σ
        | none => .no)
      | _ => .no)
    | _ => .no)
  | _ => .no
def hUpd (kt : KT) (m i x : AX) (_ : Id) (τ : Fr) (σ : H) : OR :=
  match keyEq kt (ev τ i) (ev τ i) with
  | some true => (match ev τ m with
    | .map b => (match σ.blk b with
      | some (.map kt' l) => if kt ≠ kt' then .no else (match keyAt kt (ev τ i) l with
        | some _ => .ok uv (σ.put b (some (.map kt (keyPut kt (ev τ i) (ev τ x) l))))
        | none => .no)
      | _ => .no)
    | _ => .no)
  | _ => .no
def hRangeS (x : AX) (_ : Id) (τ : Fr) (σ : H) : OR := (ev τ x).asStr .no fun l => σ.new .no (fun b σ => .ok (.ptr b 0) σ) (.iter l 0)
def hNextS (x : AX) (_ : Id) (τ : Fr) (σ : H) : OR :=
  match ev τ x with
  | .ptr b 0 => (match σ.blk b with
    | some (.iter l p) => (match nth8 l p with
      | some c => if c < 128 then .ok (.tup [.bool true, goI p, .int .i32 (.ofNat c)]) (σ.put b (some (.iter l (p + 1)))) else .no
      | none => .ok (.tup [.bool false]) σ)
    | _ => .no)
  | _ => .no
def hCallF (k : I3) (xs : List AX) (_ : Id) (τ : Fr) (_ : H) : OR := .call k (evs τ xs)
def hCallV (x : AX) (xs : List AX) (_ : Id) (τ : Fr) (_ : H) : OR :=
  match ev τ x with
  | .func f first cap => if f < 512 then .call (I3.of f) (app8 (app8 first (evs τ xs)) cap) else .no
  | _ => .no
/-- Not run by the machine: walked by hand (0: range over a map, 1: its step, 2: its entry). -/
def hGhost (_ : Nat) (_ : AX) (_ : Id) (_ : Fr) (_ : H) : OR := .no
/-- One operation. -/
def AO.run (o : AO) : Id → Fr → H → OR :=
  AO.rec (motive := fun _ => Id → Fr → H → OR) hMv hPick hBox hBuild hBuildS hLoad hStore hNilck hBin hEq hUn hConvI hConvSS hConvSB hConvBS hMkif hMkfn hField hFieldA hIdxA hIdxV hIdxS
    hSliS hSliL hSliA hExt hLenK hLen hCapS hApp hCopy hMin hMax hMkS hMkM hLook hUpd hRangeS hNextS hCallF hCallV hGhost o

/-! Runs -/
/-- How code ends. -/
inductive X where
  | no
  | nrm (τ : Fr) (σ : H)
  | brk (id : Nat) (τ : Fr) (σ : H)
  | ret (τ : Fr) (σ : H)
def dput (d : Option I3) (v : AV) (τ : Fr) : Fr := Option.rec (motive := fun _ => Fr) τ (fun i => set3 i v τ) d
/-- Is an operation wanted? -/
def want (g : Option (I3 × Bool)) (τ : Fr) : Bool :=
  Option.rec (motive := fun _ => Bool) true (fun p => Prod.rec (motive := fun _ => Bool) (fun i b => (get3 i τ).asBool false fun t => ite8 b t (not8 t)) p) g
/-- One operation in its place; 'cf': calls. -/
def AR.run {α : Type} (cf : I3 → List AV → H → Option (AV × H)) (no : α) (k : Fr → H → α) (o : AR) (base : Id) (τ : Fr) (σ : H) : α :=
  AR.rec (motive := fun _ => α) (fun d g op => ite8 (want g τ)
    (OR.rec (motive := fun _ => α) no (fun v σ => k (dput d v τ) σ) (fun f args => Option.rec (motive := fun _ => α) no (fun p => Prod.rec (motive := fun _ => α) (fun v σ => k (dput d v τ) σ) p) (cf f args σ)) (op.run base τ σ))
    (k (dput d uv τ) σ)) o
/-- A row of operations. -/
def runL (cf : I3 → List AV → H → Option (AV × H)) (base : Id) (l : List AR) : Fr → H → Option (Fr × H) :=
  List.rec (motive := fun _ => Fr → H → Option (Fr × H)) (fun τ σ => some (τ, σ)) (fun o _ ih τ σ => o.run cf none ih base τ σ) l
/-- A row of operations, and all that was on the way: ahead of each, and at the end. -/
def runS (cf : I3 → List AV → H → Option (AV × H)) (base : Id) (l : List AR) : Fr → H → Option (List (Fr × H)) :=
  List.rec (motive := fun _ => Fr → H → Option (List (Fr × H))) (fun τ σ => some [(τ, σ)])
    (fun o _ ih τ σ => o.run cf none (fun τ' σ' => Option.rec (motive := fun _ => Option (List (Fr × H))) none (fun r => some ((τ, σ) :: r)) (ih τ' σ')) base τ σ) l
/-- Is a value the same, as far as that is told? -/
def one0 (x y : AV) : Bool :=
  match x, y with
  | .bool a, .bool b => a == b
  | .int k a, .int k' b => keq k k' && ieq a b
  | .str a, .str b => seq8 a b
  | .ptr a o, .ptr b q => decide (a = b) && Nat.beq o q
  | .nilp, .nilp => true
  | .slice a o n e c, .slice b p m f d => decide (a = b) && Nat.beq o p && Nat.beq n m && Nat.beq e f && decide (c = d)
  | .nils, .nils => true
  | .map a, .map b => decide (a = b)
  | .nilm, .nilm => true
  | .func f [] [], .func g [] [] => decide (f = g)
  | .nilf, .nilf => true
  | .nili, .nili => true
  | _, _ => false
def one1 (x y : AV) : Bool :=
  match x, y with
  | .iface t v, .iface u w => decide (t = u) && one0 v w
  | x, y => one0 x y
def goAV (l : List AV) : List AV → Bool :=
  List.rec (motive := fun _ => List AV → Bool) (fun r => List.rec (motive := fun _ => Bool) true (fun _ _ _ => false) r)
    (fun x _ ih r => List.rec (motive := fun _ => Bool) false (fun y r _ => one1 x y && ih r) r) l
def sameAV (x y : AV) : Bool :=
  match x, y with
  | .agg l, .agg r => goAV l r
  | .tup l, .tup r => goAV l r
  | x, y => one1 x y
/-- One reading operation gives the same in the memory of other places. -/
def chk0 (base : Id) (snaps : List (Fr × H)) (l : List AR) (c : Nat × List Nat) : Bool :=
  match nth8 l c.1, nth8 snaps c.1 with
  | some o, some (τ, σ) => if want o.guard τ then
      (match o.op.run base τ σ with
      | .ok v _ => c.2.all fun j => match nth8 snaps j with
        | some (_, σ') => (match o.op.run base τ σ' with | .ok v' _ => sameAV v v' | _ => false)
        | none => false
      | _ => false) else true
  | _, _ => false
/-- Blocks that are made early, laid in a memory. -/
def layF (base : Id) (snaps : List (Fr × H)) (l : List AR) (js : List Nat) : H → Option H :=
  List.rec (motive := fun _ => H → Option H) (fun σ => some σ) (fun j _ ih σ => match nth8 l j, nth8 snaps j with
    | some o, some (τ, _) => if want o.guard τ then (match o.op.run base τ σ with | .ok _ σ' => ih σ' | _ => none) else ih σ
    | _, _ => none) js
/-- The same for a reading operation that looks at blocks that are made early: these are laid ahead of it. -/
def chk2 (base : Id) (snaps : List (Fr × H)) (l : List AR) (i : Nat) (c : List Nat) : Bool :=
  match nth8 l i, nth8 snaps i, c with
  | some o, some (τ, σ), q :: js => if want o.guard τ then
      (match o.op.run base τ σ with
      | .ok v _ => (match nth8 snaps q with
        | some (_, σ') => (match layF base snaps l js σ' with
          | some σ2 => (match o.op.run base τ σ2 with | .ok v' _ => sameAV v v' | _ => false)
          | none => false)
        | none => false)
      | _ => false) else true
  | _, _, _ => false
def chk1 (base : Id) (snaps : List (Fr × H)) (l : List AR) (c : Nat × List Nat) : Bool := ite8 (Nat.ble 512 c.1) (chk2 base snaps l (Nat.sub c.1 512) c.2) (chk0 base snaps l c)
def last8 (l : List (Fr × H)) : Option (Fr × H) := List.rec (motive := fun _ => Option (Fr × H)) none (fun x _ ih => Option.rec (motive := fun _ => Option (Fr × H)) (some x) (fun y => some y) ih) l
def xOut (o : Option (Fr × H)) : X := Option.rec (motive := fun _ => X) .no (fun p => Prod.rec (motive := fun _ => X) (fun τ σ => .nrm τ σ) p) o
def xOps (cf : I3 → List AV → H → Option (AV × H)) (l : List AR) (τ : Fr) (σ : H) : X := xOut (runL cf σ.n l τ σ)
/-- A region whose order is open: numbers are kept for the blocks that may be made early; what reads is asked again. -/
def xReg (cf : I3 → List AV → H → Option (AV × H)) (rsv : Nat) (chk : List (Nat × List Nat)) (l : List AR) (τ : Fr) (σ : H) : X :=
  Option.rec (motive := fun _ => X) .no (fun n' =>
    List.rec (motive := fun _ => X) (xOut (runL cf σ.n l τ ⟨n', σ.m⟩)) (fun _ _ _ =>
      Option.rec (motive := fun _ => X) .no (fun snaps => ite8 (chk.all (chk1 σ.n snaps l)) (xOut (last8 snaps)) .no) (runS cf σ.n l τ ⟨n', σ.m⟩)) chk) (σ.n.plus rsv)
def xSeq (_ _ : AC) (fa fb : Fr → H → X) (τ : Fr) (σ : H) : X := X.rec (motive := fun _ => X) .no fb (fun id τ σ => .brk id τ σ) (fun τ σ => .ret τ σ) (fa τ σ)
def xCond (x : AX) (_ _ : AC) (fa fb : Fr → H → X) (τ : Fr) (σ : H) : X := (ev τ x).asBool .no fun t => ite8 t (fa τ σ) (fb τ σ)
def xBlock (id : Nat) (_ : AC) (fa : Fr → H → X) (τ : Fr) (σ : H) : X := X.rec (motive := fun _ => X) .no (fun τ σ => .nrm τ σ) (fun id' τ σ => ite8 (Nat.beq id' id) (.nrm τ σ) (.brk id' τ σ)) (fun τ σ => .ret τ σ) (fa τ σ)
def xLoop (self : AC → Fr → H → X) (a : AC) (fa : Fr → H → X) (τ : Fr) (σ : H) : X := X.rec (motive := fun _ => X) .no (fun τ σ => self (.loop a) τ σ) (fun id τ σ => .brk id τ σ) (fun τ σ => .ret τ σ) (fa τ σ)
def execC (cf : I3 → List AV → H → Option (AV × H)) (self : AC → Fr → H → X) (c : AC) : Fr → H → X :=
  AC.rec (motive := fun _ => Fr → H → X) (fun τ σ => .nrm τ σ) (xOps cf) (xReg cf) xSeq xCond xBlock (xLoop self) (fun id τ σ => .brk id τ σ) (fun τ σ => .ret τ σ) c
def emptyF : Fr := rep3 uv
def bindA (ps : List I3) : List AV → Fr → Option Fr :=
  List.rec (motive := fun _ => List AV → Fr → Option Fr) (fun l τ => List.rec (motive := fun _ => Option Fr) (some τ) (fun _ _ _ => none) l)
    (fun i _ ih l τ => List.rec (motive := fun _ => Option Fr) none (fun v l _ => ih l (set3 i v τ)) l) ps
def RV.get (r : RV) (τ : Fr) (σ : H) : Option AV :=
  RV.rec (motive := fun _ => Option AV) (fun i => some (get3 i τ))
    (fun n i => (get3 i τ).asPtr none fun b o => σ.row none (fun c _ => Option.rec (motive := fun _ => Option AV) (c.get o) (fun n => Option.rec (motive := fun _ => Option AV) none (fun l => some (.agg l)) (c.take n o)) n) b) r
def resA (rs : List RV) (τ : Fr) (σ : H) : Option (List AV) :=
  List.rec (motive := fun _ => Option (List AV)) (some []) (fun r _ ih => Option.rec (motive := fun _ => Option (List AV)) none (fun v => Option.rec (motive := fun _ => Option (List AV)) none (fun l => some (v :: l)) ih) (r.get τ σ)) rs
def tupA (l : List AV) : AV := List.rec (motive := fun _ => AV) (.tup []) (fun x r _ => List.rec (motive := fun _ => AV) x (fun _ _ _ => .tup l) r) l
def resX (rs : List RV) (τ : Fr) (σ : H) : Option (AV × H) := Option.rec (motive := fun _ => Option (AV × H)) none (fun l => some (tupA l, σ)) (resA rs τ σ)
def enterE (self : AC → Fr → H → X) (args : List AV) (σ : H) (ps : List I3) (body : AC) (rs : List RV) : Option (AV × H) :=
  Option.rec (motive := fun _ => Option (AV × H)) none (fun τ => X.rec (motive := fun _ => Option (AV × H)) none (resX rs) (fun _ _ _ => none) (resX rs) (self body τ σ)) (bindA ps args emptyF)
/-- A call. -/
def callE (FT : F3 Ent) (self : AC → Fr → H → X) (k : I3) (args : List AV) (σ : H) : Option (AV × H) :=
  Ent.rec (motive := fun _ => Option (AV × H)) none (enterE self args σ) (fun f => f args σ) (get3 k FT)
/-- Code, under so much fuel. -/
def exec (FT : F3 Ent) (n : Nat) : AC → Fr → H → X :=
  Nat.rec (motive := fun _ => AC → Fr → H → X) (fun _ _ _ => .no) (fun _ self => execC (callE FT self) self) n
/-- A function called. -/
def callN (FT : F3 Ent) (n : Nat) (k : I3) (args : List AV) (σ : H) : Option (AV × H) := callE FT (exec FT n) k args σ
end
end Go.Dk
namespace Go.Dk

def smallN (n : Nat) : Bool := n < 512
def i3? (n : Nat) : Option I3 := if n < 512 then some (I3.of n) else none

def _root_.Go.Value.oneCell : Value → Bool | .agg _ | .tuple _ => false | _ => true
/-- A constant. -/
def avOf : Value → Option AV
  | .bool b => some (.bool b)
  | .int k n => some (.int k n)
  | .string s => some (.str (s.data.toList.map (·.toNat)))
  | .pointer none => some .nilp
  | .slice none 0 0 => some .nils
  | .map none => some .nilm
  | .nilFunc => some .nilf
  | .nilIface => some .nili
  | .func (.func f) ⟨[]⟩ ⟨[]⟩ => some (.func f [] [])
  | .tuple ⟨[]⟩ => some uv
  | _ => none
/-- A zero value's cells. -/
def avsOf : List Value → Option (List AV)
  | [] => some []
  | v :: l => match avOf v, avsOf l with
    | some a, some r => if v.oneCell then some (a :: r) else none
    | _, _ => none
def zeroOf (v : Value) : Option AV :=
  match v with
  | .agg cs => (avsOf cs.toList).map .agg
  | v => avOf v
def zcOf (v : Value) : Option (List AV) :=
  match v with
  | .agg cs => avsOf cs.toList
  | v => if v.oneCell then (avOf v).map fun a => [a] else none
def axOf : Operand → Option AX
  | .tmp t => (i3? t).map .t
  | .const v => (zeroOf v).map .c
  | .func f => some (.c (.func f [] []))
  | .global _ => none
def axsOf : List Operand → Option (List AX)
  | [] => some []
  | x :: l => match axOf x, axsOf l with
    | some a, some r => some (a :: r)
    | _, _ => none
def oaxOf : Option Operand → Option (Option AX)
  | none => some none
  | some x => (axOf x).map some

/-- How many cells an aggregate type has; none: no aggregate. -/
def aggN (P : Program) (t : TypeId) : Option (Option Nat) :=
  match P.underlying t, P.info? t with
  | some (.struct _), some i | some (.array _ _), some i => some (some i.size)
  | some _, some _ => some none
  | _, _ => none
def primK (P : Program) (t : TypeId) : Option PK :=
  match P.underlying t with
  | some (.int _) => some .i
  | some .string => some .s
  | some .bool => some .b
  | _ => none
def primT (P : Program) (t : TypeId) : Bool := (primK P t).isSome
def size1 (P : Program) (t : TypeId) : Bool := match P.info? t with | some i => i.size == 1 | none => false
/-- A struct of plain fields, one cell each. -/
def flatS (P : Program) (fs : List Field) (n : Nat) : Option (List PK) :=
  match fs with
  | [] => some []
  | f :: r => match primK P f.type, flatS P r (n + 1) with
    | some k, some l => if f.name != "_" && f.offset == n && size1 P f.type then some (k :: l) else none
    | _, _ => none
def flatT (P : Program) (t : TypeId) : Option (List PK) :=
  match P.underlying t with
  | some (.struct fs) => if P.stoodInHeld t then none else flatS P fs.toList 0
  | some (.array n e) => match primK P e with
    | some k => if size1 P e then some (List.replicate n k) else none
    | none => none
  | _ => none
/-- By what two values of a type are held against each other; numbers and strings: not here. -/
def clsOf (P : Program) (t : TypeId) (constAmong : Bool) : Option Cls :=
  match P.underlying t with
  | some .bool => some .bool
  | some (.pointer e) => (match P.info? e with | some i => if i.size ≠ 0 then some .ptr else none | none => none)
  | some (.slice _) => some .slice
  | some (.map _ _) => some .map
  | some (.func _ _ _) => some .func
  | some (.interface _) => if constAmong then some .iface else none
  | some (.struct _) | some (.array _ _) => if P.eqGuardType P.depth t then none else (flatT P t).map .flat
  | _ => none
/-- A map's key type. -/
def keyK (P : Program) (t : TypeId) : Option KT :=
  match primK P t with
  | some k => some (.prim k)
  | none => (flatT P t).map .flat
def partsOf (place : Nat → Option (Nat × Nat)) : List (Nat × Operand) → Option (List (Nat × Nat × AX))
  | [] => some []
  | (i, x) :: l => match place i, axOf x, partsOf place l with
    | some (o, n), some a, some r => some ((o, n, a) :: r)
    | _, _, _ => none
def structPlace (P : Program) (fs : Array Field) (i : Nat) : Option (Nat × Nat) :=
  match fs[i]? with
  | some f => (match P.info? f.type with | some j => some (f.offset, j.size) | none => none)
  | none => none
def allSizes (P : Program) (fs : Array Field) : Bool := fs.toList.all fun f => (P.info? f.type).isSome
def isConst : Operand → Bool | .const _ => true | _ => false
def repL (z : List AV) : Nat → List AV
  | 0 => []
  | n + 1 => z ++ repL z n

def numOrStr (P : Program) (t : TypeId) : Bool := match P.underlying t with | some (.int _) => true | some .string => true | _ => false
def noHi (hi mx : Option Operand) : Bool := hi.isNone && mx.isSome
def zeroFits (j : TypeInfo) : Bool := match j.zero with | some z => z.cells.size == j.size | none => false
def appOk (j : TypeInfo) (u : TypeDesc) : Bool := (match u with | .slice _ => true | .string => j.size == 1 | _ => false) && decide (0 < j.size) && zeroFits j
def copyOk (j : TypeInfo) (u : TypeDesc) : Bool := match u with | .string => j.size == 1 | .slice _ => true | _ => false
/-- One operation; 'rsv': the number that is kept for the block that it makes, in a region whose order is open. -/
def opOf (P : Program) (rsv : Option Nat) (o : Oper) : Option AO :=
  match o.op with
  | .move x | .assign x => (axOf x).map .mv
  | .pick c a b => match axOf c, axOf a, axOf b with | some c, some a, some b => some (.pick c a b) | _, _, _ => none
  | .alloc e => match P.info? e with
    | some i => (match i.zero with | some z => (zeroOf z).map fun z => .box rsv (.c z) | none => none)
    | none => none
  | .box _ x => (axOf x).map (.box rsv)
  | .build t ps => match P.info? t, P.underlying t with
    | some i, some (.struct fs) => (match i.zero with
      | some z => (match zcOf z, partsOf (structPlace P fs) ps.toList with | some z, some l => if allSizes P fs then some (.build z l) else none | _, _ => none)
      | none => none)
    | some i, some (.array _ e) => (match i.zero, P.info? e with
      | some z, some j => (match zcOf z, partsOf (fun i => some (i * j.size, j.size)) ps.toList with | some z, some l => some (.build z l) | _, _ => none)
      | _, _ => none)
    | _, _ => none
  | .buildSlice t len ps => match P.underlying t with
    | some (.slice e) => (match P.info? e with
      | some j => (match j.zero with
        | some z => (match zcOf z, partsOf (fun i => some (i * j.size, j.size)) ps.toList with
          | some z, some l => if z.length = j.size ∧ 0 < j.size ∧ len * j.size ≤ 2 ^ 20 then some (.buildS rsv j.size len (repL z len) l) else none
          | _, _ => none)
        | none => none)
      | none => none)
    | _ => none
  | .load t x => match aggN P t, axOf x with | some n, some x => some (.load n x) | _, _ => none
  | .store t a x => match P.info? t, axOf a, axOf x with | some i, some a, some x => some (.store i.size a x) | _, _, _ => none
  | .nilCheck x => (axOf x).map .nilck
  | .binOp op t x y _ => match axOf x, axOf y with
    | some a, some b => if numOrStr P t then some (.bin op a b) else
      (match op, clsOf P t (isConst x || isConst y) with
      | .eql, some c => some (.eq false c a b)
      | .neq, some c => some (.eq true c a b)
      | _, _ => none)
    | _, _ => none
  | .unOp op _ x => (axOf x).map (.un op)
  | .convert src dst x => match P.underlying src, P.underlying dst, axOf x with
    | some (.int _), some (.int k), some x => some (.convI k x)
    | some .string, some .string, some x => some (.convSS x)
    | some (.slice e), some .string, some x => (match P.underlying e with | some (.int .u8) => some (.convBS x) | _ => none)
    | _, _, _ => none
  | .makeInterface t x => match P.underlying t, axOf x with
    | some (.interface _), _ => none
    | some _, some x => some (.mkif t x)
    | _, _ => none
  | .makeFunc (.func f) xs ys => match axsOf xs.toList, axsOf ys.toList with | some a, some b => some (.mkfn f a b) | _, _ => none
  | .fieldAddr s x f => match P.underlying s, axOf x with
    | some (.struct fs), some x => (match fs[f]? with | some f => (match P.info? f.type with | some i => if i.size ≠ 0 then some (.fieldA f.offset x) else none | none => none) | none => none)
    | _, _ => none
  | .field s x f => match P.underlying s, axOf x with
    | some (.struct fs), some x => (match fs[f]? with | some f => (match aggN P f.type with | some n => some (.field f.offset n x) | none => none) | none => none)
    | _, _ => none
  | .indexAddr t x i => match P.underlying t, axOf x, axOf i with
    | some (.slice e), some x, some i => (match P.info? e with | some j => some (.idxA none j.size x i) | none => none)
    | some (.array n e), some x, some i => (match P.info? e with | some j => some (.idxA (some n) j.size x i) | none => none)
    | _, _, _ => none
  | .index t x i => match P.underlying t, axOf x, axOf i with
    | some .string, some x, some i => some (.idxS x i)
    | some (.array n e), some x, some i => (match P.info? e, aggN P e with | some j, some a => some (.idxV n j.size a x i) | _, _ => none)
    | _, _, _ => none
  | .slice t x lo hi0 mx0 => match P.underlying t, axOf x, oaxOf lo, oaxOf hi0, oaxOf mx0 with
    | some .string, some x, some lo, some hi, some none => some (.sliS x lo hi)
    | some (.slice e), some x, some lo, some hi, some mx => (match P.info? e with | some j => if noHi hi0 mx0 then none else some (.sliL j.size x lo hi mx) | none => none)
    | some (.array n e), some x, some lo, some hi, some mx => (match P.info? e with | some j => if noHi hi0 mx0 then none else some (.sliA n j.size x lo hi mx) | none => none)
    | _, _, _, _, _ => none
  | .extract x i => (axOf x).map fun x => .ext x i
  | .lookup t x i ok => match P.underlying t, axOf x, axOf i with
    | some (.map k e), some x, some i => (match P.info? e with
      | some j => (match j.zero with | some z => (match zeroOf z, keyK P k with | some z, some ps => some (.look ps z ok x i) | _, _ => none) | none => none)
      | none => none)
    | _, _, _ => none
  | .mapUpdate t m i x | .insert t m i x => match P.underlying t, axOf m, axOf i, axOf x with
    | some (.map k _), some m, some i, some x => (keyK P k).map fun ps => .upd ps m i x
    | _, _, _, _ => none
  | .makeMap t none => match P.underlying t with | some (.map k _) => (keyK P k).map .mkM | _ => none
  | .makeSlice t l c => match P.underlying t, axOf l, axOf c with
    | some (.slice e), some l, some c => (match P.info? e with
      | some j => (match j.zero with | some z => (match zcOf z with | some z => if z.length = j.size ∧ 0 < j.size then some (.mkS j.size j.bytes z l c) else none | none => none) | none => none)
      | none => none)
    | _, _, _ => none
  | .range t x => match P.underlying t, axOf x with | some .string, some x => some (.rangeS x) | some (.map _ _), some x => some (.ghost 0 x) | _, _ => none
  | .next x true => (axOf x).map .nextS
  | .next x false => (axOf x).map (.ghost 1)
  | .entry x => (axOf x).map (.ghost 2)
  | .call { callee := .value (.func f), args, .. } => match P.funcs[f]?, axsOf args.toList with
    | some fn, some l => if f < 512 ∧ fn.body.isSome ∧ fn.name ≠ "runtime.NumGoroutine" then some (.callF (I3.of f) l) else none
    | _, _ => none
  | .call { callee := .value x, args, .. } => match axOf x, axsOf args.toList with | some x, some l => some (.callV x l) | _, _ => none
  | .call { callee := .builtin .len, args := ⟨[x]⟩, argTypes := ⟨[t]⟩ } => match P.underlying t, axOf x with
    | some (.array n _), some x => some (.lenK n x)
    | some (.pointer a), some x => (match P.underlying a with | some (.array n _) => some (.lenK n x) | _ => none)
    | some .string, some x => some (.len .str x)
    | some (.slice _), some x => some (.len .sli x)
    | some (.map _ _), some x => some (.len .map x)
    | _, _ => none
  | .call { callee := .builtin .cap, args := ⟨[x]⟩, argTypes := ⟨[t]⟩ } => match P.underlying t, axOf x with
    | some (.array n _), some x => some (.lenK n x)
    | some (.slice _), some x => some (.capS x)
    | _, _ => none
  | .call { callee := .builtin .append, args := ⟨[s, x]⟩, argTypes := ⟨[t, u]⟩ } => match P.underlying t, P.underlying u, axOf s, axOf x with
    | some (.slice e), some u, some s, some x => (match P.info? e with
      | some j => if appOk j u then some (.app j.size j.bytes s x) else none
      | none => none)
    | _, _, _, _ => none
  | .call { callee := .builtin .copy, args := ⟨[d, s]⟩, argTypes := ⟨[t, u]⟩ } => match P.underlying t, P.underlying u, axOf d, axOf s with
    | some (.slice e), some u, some d, some s => (match P.info? e with | some j => if copyOk j u then some (.copy j.size d s) else none | none => none)
    | _, _, _, _ => none
  | .call { callee := .builtin .min, args := ⟨[x, y]⟩, .. } => match axOf x, axOf y with | some x, some y => some (.min2 x y) | _, _ => none
  | .call { callee := .builtin .max, args := ⟨[x, y]⟩, .. } => match axOf x, axOf y with | some x, some y => some (.max2 x y) | _, _ => none
  | _ => none

/-! Regions whose order is open -/
inductive Kd where | pure | read | float | chain
deriving DecidableEq
def AO.kd : AO → Kd
  | .load .. | .len .. | .convBS .. | .look .. => .read
  | .box (some _) _ | .buildS (some _) .. => .float
  | .box none _ | .buildS none .. | .store .. | .convSB .. | .app .. | .copy .. | .mkS .. | .mkM .. | .upd .. | .rangeS .. | .nextS .. | .callF .. | .callV .. | .ghost .. => .chain
  | _ => .pure
def AO.rsv : AO → Option Nat | .box r _ | .buildS r _ _ _ _ => r | _ => none
/-- Which operations come before each: closed. -/
def predsOf (ops : List Oper) : List (List Nat) :=
  go ops []
where
  go : List Oper → List (List Nat) → List (List Nat)
    | [], acc => acc
    | o :: r, acc => go r (acc ++ [((o.after.toList.filter (Region.binds .any)).flatMap fun e => e.on :: (acc[e.on]?).getD []).eraseDups])
def rsvOf (ops : List Oper) : List (Option Nat) :=
  go ops 0
where
  go : List Oper → Nat → List (Option Nat)
    | [], _ => []
    | o :: r, n => match o.op with
      | .alloc _ | .box _ _ | .buildSlice _ _ _ => some n :: go r (n + 1)
      | _ => none :: go r n
def arOf (P : Program) (N : Nat) (ops : Array Oper) (rsv : Option Nat) (o : Oper) : Option AR :=
  match opOf P rsv o with
  | none => none
  | some ao =>
    match (match o.dst with | none => some none | some d => if d < N then (i3? d).map some else none),
      (match o.guard with | none => some none | some (j, b) => (match (ops[j]?).bind (·.dst) with | some d => if d < N then (i3? d).map fun i => some (i, b) else none | none => none)) with
    | some d, some g => some ⟨d, g, ao⟩
    | _, _ => none
def arsOf (P : Program) (N : Nat) (ops : Array Oper) : List (Option Nat) → List Oper → Option (List AR)
  | r :: rs, o :: l => match arOf P N ops r o, arsOf P N ops rs l with | some a, some b => some (a :: b) | _, _ => none
  | [], [] => some []
  | _, _ => none
def effAt (kds : List Kd) (j : Nat) : Bool := match kds[j]? with | some .float | some .chain => true | _ => false
/-- Where a reading operation is asked again. -/
def qsOf (kds : List Kd) (preds : List (List Nat)) (i : Nat) : List Nat :=
  ((List.range (kds.length + 1)).filter fun q => (q == kds.length || (match kds[q]? with | some .float | some .chain => true | _ => false)) && !((preds[i]?).getD []).contains q &&
    ((List.range q).all fun j => match kds[j]? with | some .float | some .chain => !((preds[j]?).getD []).contains i | _ => true) && (decide (q < i) || (List.range q).any fun j => decide (i < j) && effAt kds j))
/-- The early blocks behind q that the operation i leans on. -/
def flOf (kds : List Kd) (preds : List (List Nat)) (i q d : Nat) : List Nat :=
  Nat.rec (motive := fun _ => List Nat) [] (fun d ih => ih ++ (if (match kds[q + d]? with | some .float => true | _ => false) && ((preds[i]?).getD []).contains (q + d) then [q + d] else [])) d
def flAt (kds : List Kd) (preds : List (List Nat)) (i q : Nat) : List Nat := flOf kds preds i q (kds.length - q)
def chkAt (kds : List Kd) (preds : List (List Nat)) (i : Nat) : List (Nat × List Nat) :=
  (if ((qsOf kds preds i).filter fun q => (flAt kds preds i q).isEmpty).isEmpty then [] else [(i, (qsOf kds preds i).filter fun q => (flAt kds preds i q).isEmpty)]) ++
    ((qsOf kds preds i).filter fun q => !(flAt kds preds i q).isEmpty).map fun q => (i + 512, q :: flAt kds preds i q)
def chkOf (kds : List Kd) (preds : List (List Nat)) : List (Nat × List Nat) :=
  (List.range kds.length).flatMap fun i => if kds[i]? = some .read then chkAt kds preds i else []
def AX.slot : AX → List I3 | .t i => [i] | .c _ => []
def oslot : Option AX → List AX | some x => [x] | none => []
def AO.args : AO → List AX
  | .mv x | .box _ x | .load _ x | .nilck x | .un _ x | .convI _ x | .convSS x | .convSB x | .convBS x | .mkif _ x | .field _ _ x | .fieldA _ x | .ext x _ | .lenK _ x | .len _ x | .capS x | .rangeS x | .nextS x | .ghost _ x => [x]
  | .pick c a b => [c, a, b]
  | .build _ ps | .buildS _ _ _ _ ps => ps.map (·.2.2)
  | .store _ a x | .bin _ a x | .eq _ _ a x | .idxA _ _ a x | .idxV _ _ _ a x | .idxS a x | .app _ _ a x | .copy _ a x | .min2 a x | .max2 a x | .mkS _ _ _ a x | .look _ _ _ a x => [a, x]
  | .mkfn _ xs ys => xs ++ ys
  | .sliS x lo hi => x :: (oslot lo ++ oslot hi)
  | .sliL _ x lo hi mx | .sliA _ _ x lo hi mx => x :: (oslot lo ++ oslot hi ++ oslot mx)
  | .mkM _ => []
  | .upd _ m i x => [m, i, x]
  | .callF _ xs => xs
  | .callV x xs => x :: xs
def AR.slots (r : AR) : List I3 := (match r.guard with | some (i, _) => [i] | none => []) ++ r.op.args.flatMap AX.slot
/-- What two operations that are not ordered may not share. -/
def apartR (x y : AR) : Bool :=
  (match x.dst with | some d => !y.slots.contains d && !(y.dst == some d) | none => true) && (match y.dst with | some d => !x.slots.contains d | none => true)
def chainAt (kds : List Kd) (j : Nat) : Bool := match kds[j]? with | some .chain => true | _ => false
def pairOk (l : List AR) (kds : List Kd) (pj : List Nat) (i j : Nat) : Bool :=
  pj.contains i || (match l[i]?, l[j]? with | some x, some y => apartR x y && !(effAt kds i && chainAt kds j) | _, _ => false)
def drawOk (ops : List Oper) (l : List AR) (kds : List Kd) (preds : List (List Nat)) : Bool :=
  Nat.ble ops.length 512 && (List.range ops.length).all fun j => match ops[j]?, preds[j]? with
    | some y, some pj => (y.after.toList.all fun e => !Region.binds .any e || decide (e.on < j)) && (List.range j).all fun i => pairOk l kds pj i j
    | _, _ => false
def acOf (P : Program) (N : Nat) : Code → Option AC
  | .skip => some .skip
  | .region _ ops false => (arsOf P N ops (ops.toList.map fun _ => none) ops.toList).map .ops
  | .region _ ops true => match arsOf P N ops (rsvOf ops.toList) ops.toList with
    | some l =>
      let kds := l.map (·.op.kd)
      let ps := predsOf ops.toList
      if drawOk ops.toList l kds ps && decide (l.map (·.op.rsv) = rsvOf ops.toList) then some (.reg ((rsvOf ops.toList).filter (·.isSome)).length (chkOf kds ps) l) else none
    | none => none
  | .seq a b => match acOf P N a, acOf P N b with | some a, some b => some (.seq a b) | _, _ => none
  | .cond x a b => match axOf x, acOf P N a, acOf P N b with | some x, some a, some b => some (.cond x a b) | _, _, _ => none
  | .block id a => (acOf P N a).map (.block id)
  | .loop a => (acOf P N a).map .loop
  | .exit id => some (.exit id)
  | .ret => some .ret
  | _ => none
def rvsOf (P : Program) : List ResultVar → Option (List RV)
  | [] => some []
  | .tmp t :: l => match i3? t, rvsOf P l with | some i, some r => some (.tmp i :: r) | _, _ => none
  | .cell a t :: l => match i3? a, aggN P t, rvsOf P l with | some i, some n, some r => some (.cell n i :: r) | _, _, _ => none
def maxTmp (fn : Func) : Bool := fn.ntmps ≤ 512 && fn.params.size + fn.nfree ≤ fn.ntmps
def entOf (P : Program) (f : FuncId) : Option Ent :=
  match P.funcs[f]? with
  | none => none
  | some fn => match fn.body with
    | none => none
    | some b => match acOf P fn.ntmps b, rvsOf P fn.results.toList with
      | some c, some rs => if maxTmp fn then some (.code ((List.range (fn.params.size + fn.nfree)).map I3.of) c rs) else none
      | _, _ => none
end Go.Dk
namespace Go.Dk

theorem len8_eq {α : Type} (l : List α) : len8 l = l.length := by
  induction l with
  | nil => rfl
  | cons x l ih => exact congrArg Nat.succ ih
theorem nth8_eq {α : Type} (l : List α) : ∀ k, nth8 l k = l[k]? := by
  induction l with
  | nil => intro k; rfl
  | cons x l ih =>
    intro k
    cases k with
    | zero => rfl
    | succ k => exact (ih k).trans (List.getElem?_cons_succ).symm
theorem drop8_eq {α : Type} : ∀ (n : Nat) (l : List α), drop8 n l = l.drop n := by
  intro n
  induction n with
  | zero => intro l; rfl
  | succ n ih =>
    intro l
    cases l with
    | nil => rfl
    | cons x l => exact ih l
theorem take8_eq {α : Type} : ∀ (n : Nat) (l r : List α), take8 n l = some r → n ≤ l.length ∧ r = l.take n := by
  intro n
  induction n with
  | zero => intro l r h; cases h; exact ⟨Nat.zero_le _, rfl⟩
  | succ n ih =>
    intro l r h
    cases l with
    | nil => cases h
    | cons x l =>
      change Option.rec (motive := fun _ => Option (List α)) none (fun r => some (x :: r)) (take8 n l) = some r at h
      cases h1 : take8 n l with
      | none => rw [h1] at h; cases h
      | some q =>
        rw [h1] at h
        cases h
        obtain ⟨h2, h3⟩ := ih l q h1
        exact ⟨by simp; omega, by simp [h3]⟩
theorem app8_eq {α : Type} (l r : List α) : app8 l r = l ++ r := by
  induction l with
  | nil => rfl
  | cons x l ih => exact congrArg (x :: ·) ih
theorem map8_eq {α β : Type} (f : α → β) (l : List α) : map8 f l = l.map f := by
  induction l with
  | nil => rfl
  | cons x l ih => exact congrArg (f x :: ·) ih
theorem rep8_succ {α : Type} (l : List α) (n : Nat) : rep8 l (n + 1) = l ++ rep8 l n := app8_eq l _
/-- A row laid over a row. -/
theorem lay8_zero {α : Type} : ∀ (r z q : List α), lay8 r 0 z = some q → r.length ≤ z.length ∧ q = r ++ z.drop r.length := by
  intro r
  induction r with
  | nil => intro z q h; cases h; exact ⟨Nat.zero_le _, rfl⟩
  | cons x r ih =>
    intro z q h
    cases z with
    | nil => cases h
    | cons y z =>
      change Option.rec (motive := fun _ => Option (List α)) none (fun q => some (x :: q)) (lay8 r 0 z) = some q at h
      cases h1 : lay8 r 0 z with
      | none => rw [h1] at h; cases h
      | some p =>
        rw [h1] at h
        cases h
        obtain ⟨h2, h3⟩ := ih z p h1
        exact ⟨by simp; omega, by simp [h3]⟩
theorem lay8_eq {α : Type} (r : List α) : ∀ (n : Nat) (z q : List α), lay8 r n z = some q → n + r.length ≤ z.length ∧ q = z.take n ++ r ++ z.drop (n + r.length) := by
  intro n
  induction n with
  | zero => intro z q h; obtain ⟨h1, h2⟩ := lay8_zero r z q h; exact ⟨by omega, by simp [h2]⟩
  | succ n ih =>
    intro z q h
    cases z with
    | nil => cases h
    | cons y z =>
      change Option.rec (motive := fun _ => Option (List α)) none (fun q => some (y :: q)) (lay8 r n z) = some q at h
      cases h1 : lay8 r n z with
      | none => rw [h1] at h; cases h
      | some p =>
        rw [h1] at h
        cases h
        obtain ⟨h2, h3⟩ := ih z p h1
        refine ⟨by simp; omega, ?_⟩
        rw [h3]
        have : n + 1 + r.length = (n + r.length) + 1 := by omega
        rw [this]
        simp
theorem T.take_eq {α : Type} (t : T α) : ∀ (n o : Nat) (l : List α), t.take n o = some l → l.length = n ∧ ∀ j, j < n → t.get (o + j) = l[j]? := by
  intro n
  induction n with
  | zero => intro o l h; cases h; exact ⟨rfl, fun j hj => by omega⟩
  | succ n ih =>
    intro o l h
    change Option.rec (motive := fun _ => Option (List α)) none (fun v => Option.rec (motive := fun _ => Option (List α)) none (fun l => some (v :: l)) (t.take n (Nat.succ o))) (t.get o) = some l at h
    cases h1 : t.get o with
    | none => rw [h1] at h; cases h
    | some v =>
      rw [h1] at h
      change Option.rec (motive := fun _ => Option (List α)) none (fun l => some (v :: l)) (t.take n (Nat.succ o)) = some l at h
      cases h2 : t.take n (Nat.succ o) with
      | none => rw [h2] at h; cases h
      | some r =>
        rw [h2] at h
        cases h
        obtain ⟨h3, h4⟩ := ih _ _ h2
        refine ⟨by simp [h3], fun j hj => ?_⟩
        cases j with
        | zero => exact h1
        | succ j =>
          have := h4 j (by omega)
          rw [show Nat.succ o + j = o + (j + 1) by omega] at this
          rw [this]
          simp
theorem T.lay_get {α : Type} : ∀ (l : List α) (o : Nat) (t : T α) (k : Nat), (T.lay l o t).get k = if o ≤ k ∧ k < o + l.length then l[k - o]? else t.get k := by
  intro l
  induction l with
  | nil => intro o t k; rw [if_neg (by simp)]; rfl
  | cons x l ih =>
    intro o t k
    change (T.lay l (Nat.succ o) (t.set x o)).get k = _
    rw [ih, T.get_set]
    by_cases h : o = k
    · subst h
      rw [if_neg (by omega), if_pos rfl, if_pos (by simp)]
      simp
    · rw [if_neg h]
      by_cases h2 : Nat.succ o ≤ k ∧ k < Nat.succ o + l.length
      · rw [if_pos h2, if_pos (by simp; omega)]
        rw [show k - o = (k - Nat.succ o) + 1 by omega]
        simp
      · rw [if_neg h2, if_neg (by simp; omega)]
theorem T.over_eq {α : Type} : ∀ (l : List α) (o : Nat) (t t' : T α), T.over l o t = some t' → t' = T.lay l o t ∧ ∀ j, j < l.length → (t.get (o + j)).isSome = true := by
  intro l
  induction l with
  | nil => intro o t t' h; cases h; exact ⟨rfl, fun j hj => by simp at hj⟩
  | cons x l ih =>
    intro o t t' h
    change Option.rec (motive := fun _ => Option (T α)) none (fun _ => T.over l (Nat.succ o) (t.set x o)) (t.get o) = some t' at h
    cases h1 : t.get o with
    | none => rw [h1] at h; cases h
    | some v =>
      rw [h1] at h
      obtain ⟨h2, h3⟩ := ih _ _ _ h
      refine ⟨h2, fun j hj => ?_⟩
      cases j with
      | zero => rw [Nat.add_zero, h1]; rfl
      | succ j =>
        have := h3 j (by simp at hj; omega)
        rw [T.get_set, if_neg (by omega), show Nat.succ o + j = o + (j + 1) by omega] at this
        exact this
/-! Ids of the small numbers -/
theorem D8.of_num {n : Nat} (h : n < 8) : (D8.of n).num = n := by
  match n, h with
  | 0, _ => rfl
  | 1, _ => rfl
  | 2, _ => rfl
  | 3, _ => rfl
  | 4, _ => rfl
  | 5, _ => rfl
  | 6, _ => rfl
  | 7, _ => rfl
theorem I3.of_num {n : Nat} (h : n < 512) : (I3.of n).num = n := by
  unfold I3.of I3.num
  simp only
  rw [D8.of_num (by omega), D8.of_num (by omega), D8.of_num (by omega)]
  omega
theorem I3.num_lt (i : I3) : i.num < 512 := by
  obtain ⟨a, b, c⟩ := i
  have := D8.num_lt a; have := D8.num_lt b; have := D8.num_lt c
  simp only [I3.num]; omega
theorem Id.plus_num {i : Id} : ∀ {n : Nat} {j : Id}, i.plus n = some j → j.num = i.num + n := by
  intro n
  induction n with
  | zero => intro j h; cases h; rfl
  | succ n ih =>
    intro j h
    change Option.rec (motive := fun _ => Option Id) none (fun j => j.succ) (i.plus n) = some j at h
    cases h1 : i.plus n with
    | none => rw [h1] at h; cases h
    | some q =>
      rw [h1] at h
      have := Id.succ_num h
      have := ih h1
      omega
theorem Id.plus_of_le {i : Id} : ∀ {n m : Nat} {j : Id}, i.plus n = some j → m ≤ n → ∃ q, i.plus m = some q := by
  intro n
  induction n with
  | zero => intro m j h hm; exact ⟨i, by rw [show m = 0 by omega]; rfl⟩
  | succ n ih =>
    intro m j h hm
    by_cases e : m = n + 1
    · exact ⟨j, e ▸ h⟩
    · change Option.rec (motive := fun _ => Option Id) none (fun j => j.succ) (i.plus n) = some j at h
      cases h1 : i.plus n with
      | none => rw [h1] at h; cases h
      | some q => exact ih h1 (by omega)
/-! Numbers -/
theorem wrap_small (k : IntKind) (a : Nat) (h : a ≤ 127) : k.wrap (.ofNat a) = .ofNat a := by
  cases k <;> simp only [IntKind.wrap, IntKind.bits, IntKind.signed] <;> simp <;> omega
theorem wrapF_eq (k : IntKind) (n : Int) : wrapF k n = k.wrap n := by
  cases n with
  | ofNat a =>
    change ite8 (Nat.ble a 127) (.ofNat a) (k.wrap (.ofNat a)) = _
    cases h : Nat.ble a 127 with
    | false => rfl
    | true => exact (wrap_small k a (Nat.le_of_ble_eq_true h)).symm
  | negSucc a => rfl
theorem iadd_eq (x y : Int) : iadd x y = x + y := by cases x <;> cases y <;> rfl
theorem ilt_eq (x y : Int) : ilt x y = decide (x < y) := by
  cases x with
  | ofNat a =>
    cases y with
    | ofNat b =>
      change Nat.ble (Nat.succ a) b = _
      rw [Bool.eq_iff_iff]; simp [Nat.ble_eq]; omega
    | negSucc b => change false = _; symm; simp; omega
  | negSucc a =>
    cases y with
    | ofNat b => change true = _; symm; simp; omega
    | negSucc b =>
      change Nat.ble (Nat.succ b) a = _
      rw [Bool.eq_iff_iff]; simp [Nat.ble_eq]; omega
theorem ieq_eq (x y : Int) : ieq x y = (x == y) := by
  cases x with
  | ofNat a =>
    cases y with
    | ofNat b => change Nat.beq a b = _; rw [Bool.eq_iff_iff]; simp; omega
    | negSucc b => rfl
  | negSucc a =>
    cases y with
    | ofNat b => rfl
    | negSucc b => change Nat.beq a b = _; rw [Bool.eq_iff_iff]; simp
theorem not8_eq (b : Bool) : not8 b = !b := by cases b <;> rfl
theorem ile_eq (x y : Int) : ile x y = decide (x ≤ y) := by
  unfold ile; rw [not8_eq, ilt_eq, Bool.eq_iff_iff]; simp
theorem keq_eq (a b : IntKind) : keq a b = decide (a = b) := by cases a <;> cases b <;> rfl
theorem seq8_eq : ∀ (l r : List Nat), seq8 l r = decide (l = r) := by
  intro l
  induction l with
  | nil => intro r; cases r <;> rfl
  | cons x l ih =>
    intro r
    cases r with
    | nil => rfl
    | cons y r =>
      change ite8 (Nat.beq x y) (seq8 l r) false = _
      rw [ih]
      by_cases h : x = y
      · subst h
        have : Nat.beq x x = true := by simp
        rw [this]; simp
      · have : Nat.beq x y = false := by rw [← Bool.not_eq_true]; simpa using h
        rw [this]; simp [h]
end Go.Dk
namespace Go.Dk
open Go

/-- Where the blocks lie: the model's block, and how many places it has. -/
abbrev Emb := Id → Option (Nat × Nat)
def Sub (φ φ' : Emb) : Prop := ∀ i y, φ i = some y → φ' i = some y
theorem Sub.refl (φ : Emb) : Sub φ φ := fun _ _ h => h
theorem Sub.trans {a b c : Emb} (h : Sub a b) (k : Sub b c) : Sub a c := fun i y e => k i y (h i y e)
def upd (φ : Emb) (b : Id) (x : Nat × Nat) : Emb := fun i => if i = b then some x else φ i
theorem upd_same (φ : Emb) (b : Id) (x : Nat × Nat) : upd φ b x b = some x := if_pos rfl
theorem upd_ne (φ : Emb) {b i : Id} (x : Nat × Nat) (h : i ≠ b) : upd φ b x i = φ i := if_neg h
theorem Sub.upd {φ : Emb} {b : Id} (x : Nat × Nat) (h : φ b = none) : Sub φ (upd φ b x) := fun i y e => by
  rw [upd_ne φ x (fun he => by rw [he, h] at e; cases e)]; exact e

def bstr (l : List Nat) : ByteArray := ⟨(l.map UInt8.ofNat).toArray⟩
def isBytes (l : List Nat) : Prop := ∀ x ∈ l, x < 256
/-- Not an aggregate, not a tuple. -/
def AV.one : AV → Bool | .agg _ | .tup _ => false | _ => true
noncomputable def runPend (k : IntKind) : List (BinOp × Int) → Int → Option Int
  | [], n => some n
  | (op, c) :: l, n => match ibin op k n c with
    | some (.int _ m) => runPend k l m
    | _ => none

mutual
/-- What value an abstract value stands for. -/
inductive VR (φ : Emb) : AV → Value → Prop where
  | bool (b : Bool) : VR φ (.bool b) (.bool b)
  | int (k : IntKind) (n : Int) : VR φ (.int k n) (.int k n)
  | str (l : List Nat) (h : isBytes l) : VR φ (.str l) (.string (bstr l))
  | ptr (b : Id) (o c z : Nat) (h : φ b = some (c, z)) : VR φ (.ptr b o) (.pointer (some ⟨c, o, none⟩))
  | nilp : VR φ .nilp (.pointer none)
  | sliceK (b : Id) (o n es cap c z : Nat) (h : φ b = some (c, z)) : VR φ (.slice b o n es (some cap)) (.slice (some ⟨c, o, none⟩) n cap)
  | sliceU (b : Id) (o n es cap c z : Nat) (h : φ b = some (c, z)) (hn : n ≤ cap) (hz : o + cap * es ≤ z) : VR φ (.slice b o n es none) (.slice (some ⟨c, o, none⟩) n cap)
  | nils : VR φ .nils (.slice none 0 0)
  | map (b : Id) (c z : Nat) (h : φ b = some (c, z)) : VR φ (.map b) (.map (some c))
  | nilm : VR φ .nilm (.map none)
  | func (f : FuncId) (xs ys : List AV) (xs' ys' : List Value) (h : VRs φ xs xs') (h' : VRs φ ys ys') : VR φ (.func f xs ys) (.func (.func f) xs'.toArray ys'.toArray)
  | nilf : VR φ .nilf .nilFunc
  | iface (t : TypeId) (v : AV) (v' : Value) (h : VR φ v v') : VR φ (.iface t v) (.iface t v')
  | nili : VR φ .nili .nilIface
  | agg (l : List AV) (l' : List Value) (h : VRs φ l l') (h1 : ∀ x ∈ l, x.one = true) : VR φ (.agg l) (.agg l'.toArray)
  | tup (l : List AV) (l' : List Value) (h : VRs φ l l') : VR φ (.tup l) (.tuple l'.toArray)
  | pend (k : IntKind) (ops : List (BinOp × Int)) (r n : Int) (h : runPend k ops n = some r) (h1 : ops ≠ []) : VR φ (.pend k ops r) (.int k n)
  | junk (v : Value) (h : ∀ b, v ≠ .bool b) : VR φ (.tup [.tup []]) v
inductive VRs (φ : Emb) : List AV → List Value → Prop where
  | nil : VRs φ [] []
  | cons (x : AV) (v : Value) (l : List AV) (l' : List Value) (h : VR φ x v) (t : VRs φ l l') : VRs φ (x :: l) (v :: l')
end

theorem VR.mono {φ φ' : Emb} (hs : Sub φ φ') {x : AV} {v : Value} (h : VR φ x v) : VR φ' x v := by
  refine VR.rec (motive_1 := fun x v _ => VR φ' x v) (motive_2 := fun l l' _ => VRs φ' l l') ?_ ?_ ?_ ?_ ?_ ?_ ?_ ?_ ?_ ?_ ?_ ?_ ?_ ?_ ?_ ?_ ?_ ?_ ?_ ?_ h
  · exact fun b => .bool b
  · exact fun k n => .int k n
  · exact fun l h => .str l h
  · exact fun b o c z h => .ptr b o c z (hs _ _ h)
  · exact .nilp
  · exact fun b o n es cap c z h => .sliceK b o n es cap c z (hs _ _ h)
  · exact fun b o n es cap c z h hn hz => .sliceU b o n es cap c z (hs _ _ h) hn hz
  · exact .nils
  · exact fun b c z h => .map b c z (hs _ _ h)
  · exact .nilm
  · exact fun f xs ys xs' ys' _ _ h h' => .func f xs ys xs' ys' h h'
  · exact .nilf
  · exact fun t v v' _ h => .iface t v v' h
  · exact .nili
  · exact fun l l' _ h1 h => .agg l l' h h1
  · exact fun l l' _ h => .tup l l' h
  · exact fun k ops r n h h1 => .pend k ops r n h h1
  · exact fun v h => .junk v h
  · exact .nil
  · exact fun x v l l' _ _ h t => .cons x v l l' h t
theorem VRs.mono {φ φ' : Emb} (hs : Sub φ φ') {l : List AV} {l' : List Value} (h : VRs φ l l') : VRs φ' l l' := by
  induction l generalizing l' with
  | nil => cases h; exact .nil
  | cons x l ih => cases h with | cons _ v _ r h t => exact .cons _ _ _ _ (h.mono hs) (ih t)
theorem VRs.length {φ : Emb} {l : List AV} {l' : List Value} (h : VRs φ l l') : l'.length = l.length := by
  induction l generalizing l' with
  | nil => cases h; rfl
  | cons x l ih => cases h with | cons _ v _ r h t => simp [ih t]
theorem VRs.get {φ : Emb} {l : List AV} {l' : List Value} (h : VRs φ l l') (k : Nat) (x : AV) (hx : l[k]? = some x) : ∃ v, l'[k]? = some v ∧ VR φ x v := by
  induction l generalizing l' k with
  | nil => simp at hx
  | cons y l ih =>
    cases h with
    | cons _ v _ r h t =>
      cases k with
      | zero => simp at hx; subst hx; exact ⟨v, by simp, h⟩
      | succ k => simp at hx; obtain ⟨u, h1, h2⟩ := ih t k hx; exact ⟨u, by simpa using h1, h2⟩
theorem VRs.of_get {φ : Emb} : ∀ {l : List AV} {l' : List Value}, l'.length = l.length → (∀ (k : Nat) (x : AV), l[k]? = some x → ∃ v, l'[k]? = some v ∧ VR φ x v) → VRs φ l l' := by
  intro l
  induction l with
  | nil => intro l' hl _; have : l' = [] := List.eq_nil_of_length_eq_zero (by simpa using hl); subst this; exact .nil
  | cons x l ih =>
    intro l' hl h
    cases l' with
    | nil => simp at hl
    | cons v r =>
      obtain ⟨u, h1, h2⟩ := h 0 x (by simp)
      simp at h1; subst h1
      refine .cons _ _ _ _ h2 (ih (by simpa using hl) fun k y hy => ?_)
      obtain ⟨u, h3, h4⟩ := h (k + 1) y (by simpa using hy)
      exact ⟨u, by simpa using h3, h4⟩
theorem VRs.append {φ : Emb} {a b : List AV} {a' b' : List Value} (h : VRs φ a a') (k : VRs φ b b') : VRs φ (a ++ b) (a' ++ b') := by
  induction a generalizing a' with
  | nil => cases h; exact k
  | cons x l ih => cases h with | cons _ v _ r h t => exact .cons _ _ _ _ h (ih t)
theorem VRs.drop {φ : Emb} {l : List AV} {l' : List Value} (h : VRs φ l l') (n : Nat) : VRs φ (l.drop n) (l'.drop n) := by
  induction n generalizing l l' with
  | zero => exact h
  | succ n ih =>
    cases h with
    | nil => exact .nil
    | cons x v l r h t => exact ih t
theorem VRs.take {φ : Emb} {l : List AV} {l' : List Value} (h : VRs φ l l') (n : Nat) : VRs φ (l.take n) (l'.take n) := by
  induction n generalizing l l' with
  | zero => exact .nil
  | succ n ih =>
    cases h with
    | nil => exact .nil
    | cons x v l r h t => exact .cons _ _ _ _ h (ih t)
theorem VR.one_cell {φ : Emb} {x : AV} {v : Value} (h : VR φ x v) (h1 : x.one = true) : v.oneCell' = true := by
  cases h <;> first | rfl | cases h1
theorem VR.agg_inv {φ : Emb} {l : List AV} {v : Value} (h : VR φ (.agg l) v) : ∃ l', v = .agg l'.toArray ∧ VRs φ l l' ∧ ∀ x ∈ l, x.one = true := by
  cases h with | agg _ l' h h1 => exact ⟨l', rfl, h, h1⟩
/-- The cells of a value. -/
theorem VR.cells {φ : Emb} {x : AV} {v : Value} {α : Type} {no : α} {k : List AV → α} {r : α} (h : VR φ x v) (hr : x.asCells no k = r) (hne : r ≠ no) :
    ∃ l, k l = r ∧ VRs φ l v.cells.toList ∧ ∀ y ∈ l, y.one = true := by
  cases h
  all_goals first
    | exact absurd hr.symm hne
    | (rename_i h h1; exact ⟨_, hr, by simpa [Value.cells] using h, h1⟩)
    | (refine ⟨_, hr, ?_, ?_⟩
       · simp only [Value.cells]
         refine .cons _ _ _ _ ?_ .nil
         first
           | exact .bool _ | exact .int _ _ | exact .str _ ‹_› | exact .ptr _ _ _ _ ‹_› | exact .nilp | exact .sliceK _ _ _ _ _ _ _ ‹_› | exact .sliceU _ _ _ _ _ _ _ ‹_› ‹_› ‹_› | exact .nils
           | exact .map _ _ _ ‹_› | exact .nilm | exact .func _ _ _ _ _ ‹_› ‹_› | exact .nilf | exact .iface _ _ _ ‹_› | exact .nili | exact .pend _ _ _ _ ‹_› ‹_›
       · intro y hy; simp at hy; subst hy; rfl)

/-- A map's entries bear stamps. -/
def Stm (es : Array MapEntry) (clock : Nat) : Prop := (∀ x ∈ es.toList, x.born < clock) ∧ (es.toList.map (·.born)).Nodup
theorem Stm.push {es : Array MapEntry} {clock : Nat} (h : Stm es clock) (k v : Value) : Stm (es.push { key := k, val := v, born := clock }) (clock + 1) := by
  refine ⟨fun x hx => ?_, ?_⟩
  · rw [Array.toList_push, List.mem_append] at hx
    rcases hx with hx | hx
    · have := h.1 x hx; omega
    · simp at hx; subst hx; simp
  · rw [Array.toList_push, List.map_append, List.nodup_append]
    refine ⟨h.2, by simp, fun a ha b hb => ?_⟩
    simp at hb; subst hb
    obtain ⟨x, hx, rfl⟩ := List.mem_map.1 ha
    have := h.1 x hx; omega
theorem Stm.set {es es' : Array MapEntry} {clock j : Nat} {en : MapEntry} (h : Stm es clock) (he : es[j]? = some en) (k v : Value) (hs : es'.toList = es.toList.set j { en with key := k, val := v }) : Stm es' clock := by
  have hj : es.toList[j]? = some en := by simpa using he
  have hm : es'.toList.map (·.born) = es.toList.map (·.born) := by
    rw [hs, List.map_set]
    refine List.ext_getElem? fun q => ?_
    rw [List.getElem?_set]
    by_cases hq : j = q
    · subst hq
      have hl := (List.getElem?_eq_some_iff.1 hj).1
      rw [if_pos rfl, if_pos (by simpa using hl), List.getElem?_map, hj]; rfl
    · rw [if_neg hq]
  refine ⟨fun x hx => ?_, by rw [hm]; exact h.2⟩
  have : x.born ∈ es.toList.map (·.born) := by rw [← hm]; exact List.mem_map_of_mem hx
  obtain ⟨y, hy, e⟩ := List.mem_map.1 this
  rw [← e]; exact h.1 y hy
/-- What one block stands for. -/
def BR (φ : Emb) (x : Blk) (c z : Nat) (w : World) : Prop :=
  match x with
  | .cells t n => ∃ cur e, w.heap[c]? = some (.cells cur e (0, 0)) ∧ cur.size = z ∧ n ≤ z ∧ ∀ k x, t.get k = some x → k < n ∧ x.one = true ∧ ∃ v, cur[k]? = some v ∧ VR φ x v
  | .map kt l => ∃ (es : Array MapEntry) (clock : Nat) (l' : List (AV × AV)), w.heap[c]? = some (.map es clock) ∧ l'.Perm l ∧ VRs φ (l'.map (·.1)) (es.toList.map (·.key)) ∧ VRs φ (l'.map (·.2)) (es.toList.map (·.val)) ∧
      l.Pairwise (fun p q => keyEq kt p.1 q.1 = some false) ∧ (∀ p ∈ l, keyEq kt p.1 p.1 = some true) ∧ Stm es clock
  | .iter l p => w.heap[c]? = some (.stringIter (bstr l) p) ∧ isBytes l
theorem BR.mono {φ φ' : Emb} {x : Blk} {c z : Nat} {w w' : World} (h : BR φ x c z w) (hs : Sub φ φ') (hw : w'.heap[c]? = w.heap[c]?) : BR φ' x c z w' := by
  cases x with
  | cells t n =>
    obtain ⟨cur, e, h1, h2, h3, h4⟩ := h
    refine ⟨cur, e, hw.trans h1, h2, h3, fun k x hx => ?_⟩
    obtain ⟨a, b, v, hv, hr⟩ := h4 k x hx
    exact ⟨a, b, v, hv, hr.mono hs⟩
  | map ps l =>
    obtain ⟨es, clock, l', h1, h2, h3, h4, h5⟩ := h
    exact ⟨es, clock, l', hw.trans h1, h2, h3.mono hs, h4.mono hs, h5⟩
  | iter l p => exact ⟨hw.trans h.1, h.2⟩
theorem BR.lt {φ : Emb} {x : Blk} {c z : Nat} {w : World} (h : BR φ x c z w) : c < w.heap.size := by
  cases x with
  | cells t n => obtain ⟨cur, e, h1, _⟩ := h; exact (Array.getElem?_eq_some_iff.1 h1).1
  | map ps l => obtain ⟨es, clock, l', h1, _⟩ := h; exact (Array.getElem?_eq_some_iff.1 h1).1
  | iter l p => exact (Array.getElem?_eq_some_iff.1 h.1).1

/-- Blocks of the model's that stay as they are, and for which no block stands. -/
class Keep where
  at' : Nat → Option Obj
variable [Keep]
/-- What memory stands for. -/
structure HR [Keep] (φ : Emb) (σ : H) (w : World) : Prop where
  fresh : ∀ i : Id, σ.n.num ≤ i.num → φ i = none
  blk : ∀ b x, σ.blk b = some x → ∃ c z, φ b = some (c, z) ∧ BR φ x c z w
  inj : ∀ b b' x x' c z z', σ.blk b = some x → σ.blk b' = some x' → φ b = some (c, z) → φ b' = some (c, z') → b = b'
  keep : ∀ k o, Keep.at' k = some o → w.heap[k]? = some o ∧ ∀ b x z, σ.blk b = some x → φ b ≠ some (k, z)
/-- From a number on. -/
def From (n : Nat) (b : Id) : Prop := n ≤ b.num
/-- What a step may do: numbers from m on alone are given places; of the model's old blocks those alone are turned that stand for one. -/
structure Fm (m : Id → Prop) (φ : Emb) (σ : H) (w : World) (φ' : Emb) (σ' : H) (w' : World) : Prop where
  ext : Sub φ φ'
  os : w'.os = w.os
  tape : w'.tape = w.tape
  output : w'.output = w.output
  size : w.heap.size ≤ w'.heap.size
  kept : ∀ k, k < w.heap.size → (∀ b x c z, σ.blk b = some x → φ b = some (c, z) → c ≠ k) → w'.heap[k]? = w.heap[k]?
  img : ∀ b x c z, σ'.blk b = some x → φ' b = some (c, z) → c < w.heap.size → ∃ b0 x0 z0, σ.blk b0 = some x0 ∧ φ b0 = some (c, z0)
  old : ∀ b, φ b = none → φ' b ≠ none → m b
  n : σ.n.num ≤ σ'.n.num
theorem Fm.refl (m : Id → Prop) (φ : Emb) (σ : H) (w : World) : Fm m φ σ w φ σ w :=
  ⟨Sub.refl φ, rfl, rfl, rfl, Nat.le_refl _, fun _ _ _ => rfl, fun b x c z h h' _ => ⟨b, x, z, h, h'⟩, fun _ h h' => absurd h h', Nat.le_refl _⟩
theorem Fm.trans {m : Id → Prop} {φ φ1 φ2 : Emb} {σ σ1 σ2 : H} {w w1 w2 : World} (h : Fm m φ σ w φ1 σ1 w1) (k : Fm m φ1 σ1 w1 φ2 σ2 w2) : Fm m φ σ w φ2 σ2 w2 where
  ext := h.ext.trans k.ext
  os := k.os.trans h.os
  tape := k.tape.trans h.tape
  output := k.output.trans h.output
  size := Nat.le_trans h.size k.size
  kept := fun j hj hno => by
    rw [k.kept j (Nat.lt_of_lt_of_le hj h.size) (fun b x c z hb hc e => ?_), h.kept j hj hno]
    obtain ⟨b0, x0, z0, h1, h2⟩ := h.img b x c z hb hc (e ▸ hj)
    exact hno b0 x0 c z0 h1 h2 e
  img := fun b x c z hb hc hlt => by
    obtain ⟨b0, x0, z0, h1, h2⟩ := k.img b x c z hb hc (Nat.lt_of_lt_of_le hlt h.size)
    exact h.img b0 x0 c z0 h1 h2 hlt
  old := fun b h0 h2 => by
    cases e : φ1 b with
    | none => exact k.old b e h2
    | some y => exact h.old b h0 (by rw [e]; simp)
  n := Nat.le_trans h.n k.n
theorem Fm.weaken {m m' : Id → Prop} {φ φ' : Emb} {σ σ' : H} {w w' : World} (h : Fm m φ σ w φ' σ' w') (hm : ∀ b, m b → m' b) : Fm m' φ σ w φ' σ' w' :=
  { h with old := fun b h0 h1 => hm b (h.old b h0 h1) }

theorem H.blk_put (σ : H) (b i : Id) (x : Option Blk) : (σ.put b x).blk i = if b = i then x else σ.blk i := get_set5 b i x σ.m
theorem H.put_n (σ : H) (b : Id) (x : Option Blk) : (σ.put b x).n = σ.n := rfl
theorem H.new_eq {α : Type} {no : α} {k : Id → H → α} {x : Blk} {σ : H} {r : α} (h : σ.new no k x = r) (hne : r ≠ no) :
    ∃ n', σ.n.succ = some n' ∧ k σ.n ⟨n', set5 σ.n (some x) σ.m⟩ = r := by
  change Option.rec (motive := fun _ => α) no (fun n' => k σ.n ⟨n', set5 σ.n (some x) σ.m⟩) σ.n.succ = r at h
  cases e : σ.n.succ with
  | none => rw [e] at h; exact absurd h.symm hne
  | some n' => rw [e] at h; exact ⟨n', rfl, h⟩
theorem H.blk_new (σ : H) (n' : Id) (x : Blk) (i : Id) : (⟨n', set5 σ.n (some x) σ.m⟩ : H).blk i = if σ.n = i then some x else σ.blk i := get_set5 σ.n i (some x) σ.m
theorem H.row_eq {α : Type} {no : α} {k : T AV → Nat → α} {b : Id} {σ : H} {r : α} (h : σ.row no k b = r) (hne : r ≠ no) :
    ∃ t n, σ.blk b = some (.cells t n) ∧ k t n = r := by
  change Option.rec (motive := fun _ => α) no (fun x => Blk.rec (motive := fun _ => α) k (fun _ _ => no) (fun _ _ => no) x) (σ.blk b) = r at h
  cases e : σ.blk b with
  | none => rw [e] at h; exact absurd h.symm hne
  | some x =>
    rw [e] at h
    cases x with
    | cells t n => exact ⟨t, n, rfl, h⟩
    | map ps l => exact absurd h.symm hne
    | iter l p => exact absurd h.symm hne

/-- A number is given a place: a new block of the model's, or one for which no block stands any more. -/
theorem HR.add {m : Id → Prop} {φ : Emb} {σ σ' : H} {w w' : World} (h : HR φ σ w) (b : Id) (x : Blk) (c z : Nat) (hb : φ b = none) (hm : m b)
    (hn : σ.n.num ≤ σ'.n.num) (hlt : b.num < σ'.n.num)
    (hσ : ∀ i, σ'.blk i = if b = i then some x else σ.blk i)
    (hc : ∀ i y z, σ.blk i = some y → φ i = some (c, z) → False)
    (hw : ∀ k, k < w.heap.size → k ≠ c → w'.heap[k]? = w.heap[k]?) (hsz : w.heap.size ≤ w'.heap.size)
    (hos : w'.os = w.os) (htape : w'.tape = w.tape) (hout : w'.output = w.output)
    (hbr : BR (upd φ b (c, z)) x c z w') (hkp : c < w.heap.size → Keep.at' c = none) :
    HR (upd φ b (c, z)) σ' w' ∧ (w.heap.size ≤ c → Fm m φ σ w (upd φ b (c, z)) σ' w') := by
  have hsub := Sub.upd (c, z) hb
  have live : ∀ i y, σ.blk i = some y → i ≠ b := fun i y hy e => by
    obtain ⟨c', z', h1, _⟩ := h.blk i y hy
    rw [e, hb] at h1; cases h1
  have hkc : Keep.at' c = none := by
    cases e : Keep.at' c with
    | none => rfl
    | some o =>
      have := (Array.getElem?_eq_some_iff.1 (h.keep c o e).1).1
      rw [hkp this] at e; cases e
  refine ⟨⟨fun i hi => ?_, fun i y hy => ?_, fun i j y y' c' z1 z2 hi hj h1 h2 => ?_, fun k o hk => ?_⟩, fun hnew => ⟨hsub, hos, htape, hout, hsz, fun k hk _ => hw k hk (by omega), fun i y c' z' hi h1 hlt' => ?_, fun i h0 h1 => ?_, hn⟩⟩
  · rw [upd_ne _ _ (fun e => by rw [e] at hi; omega)]; exact h.fresh i (by omega)
  · rw [hσ] at hy
    by_cases e : b = i
    · rw [if_pos e] at hy; cases hy; subst e; exact ⟨c, z, upd_same _ _ _, hbr⟩
    · rw [if_neg e] at hy
      obtain ⟨c', z', h1, h2⟩ := h.blk i y hy
      exact ⟨c', z', hsub _ _ h1, h2.mono hsub (hw c' h2.lt (fun e => hc i y z' hy (e ▸ h1)))⟩
  · rw [hσ] at hi hj
    by_cases ei : b = i <;> by_cases ej : b = j
    · rw [← ei, ← ej]
    · rw [if_neg ej] at hj
      rw [← ei, upd_same] at h1
      cases h1
      rw [upd_ne _ _ (Ne.symm ej)] at h2
      exact (hc j y' z2 hj h2).elim
    · rw [if_neg ei] at hi
      rw [← ej, upd_same] at h2
      cases h2
      rw [upd_ne _ _ (Ne.symm ei)] at h1
      exact (hc i y z1 hi h1).elim
    · rw [if_neg ei] at hi; rw [if_neg ej] at hj
      rw [upd_ne _ _ (Ne.symm ei)] at h1; rw [upd_ne _ _ (Ne.symm ej)] at h2
      exact h.inj i j y y' c' z1 z2 hi hj h1 h2
  · obtain ⟨h1, h2⟩ := h.keep k o hk
    have hne : k ≠ c := fun e => by rw [e, hkc] at hk; cases hk
    refine ⟨by rw [hw k (Array.getElem?_eq_some_iff.1 h1).1 hne]; exact h1, fun i y z1 hi h3 => ?_⟩
    rw [hσ] at hi
    by_cases e : b = i
    · rw [← e, upd_same] at h3; cases h3; exact hne rfl
    · rw [if_neg e] at hi; rw [upd_ne _ _ (Ne.symm e)] at h3
      exact h2 i y z1 hi h3
  · rw [hσ] at hi
    by_cases e : b = i
    · rw [← e, upd_same] at h1; cases h1; omega
    · rw [if_neg e] at hi; rw [upd_ne _ _ (Ne.symm e)] at h1
      exact ⟨i, y, z', hi, h1⟩
  · by_cases e : i = b
    · rw [e]; exact hm
    · rw [upd_ne _ _ e] at h1; exact absurd h0 h1
/-- A block is turned. -/
theorem HR.put {m : Id → Prop} {φ : Emb} {σ : H} {w w' : World} (h : HR φ σ w) {b : Id} {x x' : Blk} {c z : Nat} (hb : σ.blk b = some x) (hφ : φ b = some (c, z))
    (hw : ∀ k, k ≠ c → w'.heap[k]? = w.heap[k]?) (hsz : w'.heap.size = w.heap.size)
    (hos : w'.os = w.os) (htape : w'.tape = w.tape) (hout : w'.output = w.output) (hbr : BR φ x' c z w') :
    HR φ (σ.put b (some x')) w' ∧ Fm m φ σ w φ (σ.put b (some x')) w' := by
  refine ⟨⟨fun i hi => h.fresh i hi, fun i y hy => ?_, fun i j y y' c' z1 z2 hi hj h1 h2 => ?_, fun k o hk => ?_⟩, ⟨Sub.refl φ, hos, htape, hout, by omega, fun k _ hno => hw k (fun e => hno b x c z hb hφ e.symm), fun i y c' z' hi h1 _ => ?_, fun i h0 h1 => absurd h0 h1, Nat.le_refl _⟩⟩
  · rw [H.blk_put] at hy
    by_cases e : b = i
    · rw [if_pos e] at hy; cases hy; subst e; exact ⟨c, z, hφ, hbr⟩
    · rw [if_neg e] at hy
      obtain ⟨c', z', h1, h2⟩ := h.blk i y hy
      refine ⟨c', z', h1, h2.mono (Sub.refl φ) (hw c' fun ec => e ?_)⟩
      exact h.inj b i x y c z z' hb hy hφ (ec ▸ h1)
  · have lift : ∀ i y, (σ.put b (some x')).blk i = some y → ∃ y, σ.blk i = some y := fun i y hy => by
      rw [H.blk_put] at hy
      by_cases e : b = i
      · exact ⟨x, e ▸ hb⟩
      · rw [if_neg e] at hy; exact ⟨y, hy⟩
    obtain ⟨y1, h3⟩ := lift i y hi
    obtain ⟨y2, h4⟩ := lift j y' hj
    exact h.inj i j y1 y2 c' z1 z2 h3 h4 h1 h2
  · obtain ⟨h1, h2⟩ := h.keep k o hk
    refine ⟨by rw [hw k (fun e => h2 b x z hb (e ▸ hφ))]; exact h1, fun i y z1 hi h3 => ?_⟩
    rw [H.blk_put] at hi
    by_cases e : b = i
    · exact h2 b x z1 hb (e ▸ h3)
    · rw [if_neg e] at hi; exact h2 i y z1 hi h3
  · rw [H.blk_put] at hi
    by_cases e : b = i
    · exact ⟨b, x, z', hb, e ▸ h1⟩
    · rw [if_neg e] at hi; exact ⟨i, y, z', hi, h1⟩
/-- A block goes. -/
theorem HR.kill {φ : Emb} {σ : H} {w : World} (h : HR φ σ w) (b : Id) : HR φ (σ.put b none) w := by
  have lift : ∀ i y, (σ.put b none).blk i = some y → σ.blk i = some y := fun i y hy => by
    rw [H.blk_put] at hy
    by_cases e : b = i
    · rw [if_pos e] at hy; cases hy
    · rwa [if_neg e] at hy
  exact ⟨h.fresh, fun i y hy => h.blk i y (lift i y hy), fun i j y y' c z z' hi hj => h.inj i j y y' c z z' (lift i y hi) (lift j y' hj), fun k o hk => ⟨(h.keep k o hk).1, fun i y z hi => (h.keep k o hk).2 i y z (lift i y hi)⟩⟩
theorem HR.drew {φ : Emb} {σ : H} {w : World} (h : HR φ σ w) : HR φ σ w.drew :=
  ⟨h.fresh, fun b x hb => let ⟨c, z, h1, h2⟩ := h.blk b x hb; ⟨c, z, h1, h2.mono (Sub.refl φ) rfl⟩, h.inj, h.keep⟩
theorem Fm.drew {m : Id → Prop} {φ : Emb} {σ : H} {w : World} : Fm m φ σ w φ σ w.drew :=
  ⟨Sub.refl φ, rfl, rfl, rfl, Nat.le_refl _, fun _ _ _ => rfl, fun b x c z h h' _ => ⟨b, x, z, h, h'⟩, fun _ h h' => absurd h h', Nat.le_refl _⟩
/-- A block that is there: where it lies, and a cell of it. -/
theorem HR.cell {φ : Emb} {σ : H} {w : World} (h : HR φ σ w) {b : Id} {t : T AV} {n k : Nat} {x : AV} (hb : σ.blk b = some (.cells t n)) (hk : t.get k = some x) {c z : Nat} (hφ : φ b = some (c, z)) :
    x.one = true ∧ ∃ v, w.cell? ⟨c, k, none⟩ = some v ∧ VR φ x v := by
  obtain ⟨c', z', h1, h2⟩ := h.blk b _ hb
  rw [hφ] at h1; cases h1
  obtain ⟨cur, e, h3, h4, h5, h6⟩ := h2
  obtain ⟨_, ho, v, hv, hr⟩ := h6 k x hk
  exact ⟨ho, v, by simp [World.cell?, h3, hv], hr⟩

/-- The first numbers are the program's variables: each has its own place. -/
def GOk (φ : Emb) : Prop := ∀ b : Id, b.num < 64 → ∃ z, φ b = some (b.num, z)
theorem GOk.mono {φ φ' : Emb} (h : GOk φ) (hs : Sub φ φ') : GOk φ' := fun b hb => let ⟨z, h1⟩ := h b hb; ⟨z, hs _ _ h1⟩
/-- What a frame stands for. -/
structure TR (φ : Emb) (N : Nat) (τ : Fr) (a : Act) : Prop where
  size : a.tmps.size = N
  defers : a.defers = []
  glob : GOk φ
  slot : ∀ i : I3, VR φ (get3 i τ) (a.tmps.getD i.num undef)
theorem TR.mono {φ φ' : Emb} {N : Nat} {τ : Fr} {a : Act} (h : TR φ N τ a) (hs : Sub φ φ') : TR φ' N τ a := ⟨h.size, h.defers, h.glob.mono hs, fun i => (h.slot i).mono hs⟩
theorem TR.put {φ : Emb} {N : Nat} {τ : Fr} {a : Act} (h : TR φ N τ a) (d : Option I3) (dn : Option Tmp) (hd : dn = d.map I3.num) (hN : ∀ i, d = some i → i.num < N) {x : AV} {v : Value} (hv : VR φ x v) :
    TR φ N (dput d x τ) (a.put dn v) := by
  cases d with
  | none => subst hd; exact h
  | some i =>
    subst hd
    refine ⟨by simp [Act.put, h.size], h.defers, h.glob, fun j => ?_⟩
    change VR φ (get3 j (set3 i x τ)) ((a.tmps.setIfInBounds i.num v).getD j.num undef)
    rw [get_set3]
    by_cases e : i = j
    · subst e
      rw [if_pos rfl]
      have : i.num < a.tmps.size := by rw [h.size]; exact hN i rfl
      simpa [Array.getD, this] using hv
    · rw [if_neg e]
      have hne : i.num ≠ j.num := fun he => e (I3.num_inj he)
      have := h.slot j
      simpa [Array.getD_eq_getD_getElem?, Array.getElem?_setIfInBounds_ne hne] using this
end Go.Dk
namespace Go.Dk
open Go
variable [Keep]

def OkR (m : Id → Prop) (φ : Emb) (σ : H) (w : World) (v : AV) (σ' : H) (r : Result Next) : Prop :=
  ∃ φ' v' w', (r = .ok (.value v') w' ∨ (r = .ok .skip w' ∧ v' = undef)) ∧ VR φ' v v' ∧ HR φ' σ' w' ∧ Fm m φ σ w φ' σ' w'
def SR (m : Id → Prop) (φ : Emb) (σ : H) (w : World) (r : OR) (res : Result Next) : Prop :=
  match r with
  | .no => True
  | .ok v σ' => OkR m φ σ w v σ' res
  | .call k args => ∃ args', res = .ok (.enter k.num args'.toArray) w ∧ VRs φ args args'
theorem SR.pure {m : Id → Prop} {φ : Emb} {σ : H} {w : World} {v : AV} {v' : Value} {r : Result Next} (h : HR φ σ w) (hv : VR φ v v') (hr : r = .ok (.value v') w) : SR m φ σ w (.ok v σ) r :=
  ⟨φ, v', w, .inl hr, hv, h, Fm.refl m φ σ w⟩
theorem uvR (φ : Emb) : VR φ uv undef := .tup [] [] .nil

/-! Constants and operands -/
theorem avOf_R {v : Value} {x : AV} (h : avOf v = some x) (φ : Emb) : VR φ x v := by
  unfold avOf at h
  split at h <;> cases h
  · exact .bool _
  · exact .int _ _
  · rename_i s
    have h1 : isBytes (s.data.toList.map (·.toNat)) := fun x hx => by
      simp only [List.mem_map] at hx
      obtain ⟨b, _, rfl⟩ := hx
      exact b.toNat_lt
    have h2 : bstr (s.data.toList.map (·.toNat)) = s := by
      unfold bstr
      have : (UInt8.ofNat ∘ fun x : UInt8 => x.toNat) = id := by funext x; simp
      simp [this]
    have h3 := VR.str (φ := φ) (s.data.toList.map (·.toNat)) h1
    rwa [h2] at h3
  · exact .nilp
  · exact .nils
  · exact .nilm
  · exact .nilf
  · exact .nili
  · exact .func _ [] [] [] [] .nil .nil
  · exact uvR φ
theorem avOf_one {v : Value} {x : AV} (h : avOf v = some x) (h1 : v.oneCell = true) : x.one = true := by
  unfold avOf at h
  split at h <;> cases h <;> first | rfl | cases h1
theorem avsOf_R : ∀ {l : List Value} {r : List AV}, avsOf l = some r → (∀ φ, VRs φ r l) ∧ (∀ x ∈ r, x.one = true) ∧ ∀ v ∈ l, v.oneCell = true := by
  intro l
  induction l with
  | nil => intro r h; cases h; exact ⟨fun _ => .nil, fun x hx => by simp at hx, fun x hx => by simp at hx⟩
  | cons v l ih =>
    intro r h
    unfold avsOf at h
    split at h
    · rename_i a q h1 h2
      by_cases h3 : v.oneCell = true
      · rw [if_pos h3] at h
        cases h
        obtain ⟨h4, h5, h6⟩ := ih h2
        exact ⟨fun φ => .cons _ _ _ _ (avOf_R h1 φ) (h4 φ), fun x hx => by
          rcases List.mem_cons.1 hx with rfl | hx
          · exact avOf_one h1 h3
          · exact h5 x hx, fun x hx => by
          rcases List.mem_cons.1 hx with rfl | hx
          · exact h3
          · exact h6 x hx⟩
      · rw [if_neg h3] at h; cases h
    · cases h
theorem zeroOf_R {v : Value} {x : AV} (h : zeroOf v = some x) (φ : Emb) : VR φ x v := by
  unfold zeroOf at h
  split at h
  · rename_i cs
    cases h1 : avsOf cs.toList with
    | none => rw [h1] at h; cases h
    | some l =>
      rw [h1] at h; cases h
      obtain ⟨h2, h3, _⟩ := avsOf_R h1
      have := VR.agg l cs.toList (h2 φ) h3
      simpa using this
  · exact avOf_R h φ
theorem zcOf_R {v : Value} {l : List AV} (h : zcOf v = some l) (φ : Emb) : VRs φ l v.cells.toList ∧ (v.oneCell = true ∨ (∃ cs, v = .agg cs) → ∀ x ∈ l, x.one = true) := by
  unfold zcOf at h
  split at h
  · rename_i cs
    obtain ⟨h2, h3, _⟩ := avsOf_R h
    exact ⟨h2 φ, fun _ => h3⟩
  · rename_i hna
    by_cases hone : v.oneCell = true
    case neg => rw [if_neg hone] at h; cases h
    rw [if_pos hone] at h
    cases h1 : avOf v with
    | none => rw [h1] at h; cases h
    | some a =>
      rw [h1] at h; cases h
      have hc : v.cells = #[v] := by cases v <;> first | rfl | exact (hna _ rfl).elim
      refine ⟨by rw [hc]; exact .cons _ _ _ _ (avOf_R h1 φ) .nil, fun h2 x hx => ?_⟩
      simp at hx; subst hx
      rcases h2 with h2 | ⟨cs, rfl⟩
      · exact avOf_one h1 h2
      · exact (hna cs rfl).elim
theorem zc_hzo {z : Value} {l : List AV} (h : zcOf z = some l) : z.oneCell = true ∨ ∃ cs, z = .agg cs := by
  unfold zcOf at h
  split at h
  · exact .inr ⟨_, rfl⟩
  · by_cases hone : z.oneCell = true
    · exact .inl hone
    · rw [if_neg hone] at h; cases h
theorem i3?_num {n : Nat} {i : I3} (h : i3? n = some i) : i.num = n := by
  unfold i3? at h
  split at h
  · cases h; exact I3.of_num ‹_›
  · cases h
section
variable {P : Program} {m : Id → Prop} {N : Nat} {φ : Emb} {σ : H} {w : World} {τ : Fr} {a : Act} {o : Oper} {base : Id}
theorem evR (hT : TR φ N τ a) {x : Operand} {x' : AX} (h : axOf x = some x') : VR φ (ev τ x') (a.eval x) := by
  unfold axOf at h
  split at h
  · rename_i t
    cases h1 : i3? t with
    | none => rw [h1] at h; cases h
    | some i => rw [h1] at h; cases h; have := hT.slot i; rw [i3?_num h1] at this; exact this
  · rename_i v
    cases h1 : zeroOf v with
    | none => rw [h1] at h; cases h
    | some y => rw [h1] at h; cases h; exact zeroOf_R h1 φ
  · cases h; exact .func _ [] [] [] [] .nil .nil
  · cases h
theorem evsR (hT : TR φ N τ a) : ∀ {l : List Operand} {l' : List AX}, axsOf l = some l' → VRs φ (evs τ l') (l.map a.eval) := by
  intro l
  induction l with
  | nil => intro l' h; cases h; exact .nil
  | cons x l ih =>
    intro l' h
    unfold axsOf at h
    split at h
    · rename_i y r h1 h2; cases h; exact .cons _ _ _ _ (evR hT h1) (ih h2)
    · cases h

theorem s_mv (hT : TR φ N τ a) (hH : HR φ σ w) {x : Operand} {x' : AX} (ho : o.op = .move x ∨ o.op = .assign x) (hx : axOf x = some x') :
    SR m φ σ w (hMv x' base τ σ) ((execOp a.eval o).run P w) :=
  .pure hH (evR hT hx) (by rcases ho with ho | ho <;> simp [execOp, ho])
theorem s_pick (hT : TR φ N τ a) (hH : HR φ σ w) {c x y : Operand} {c' x' y' : AX} (ho : o.op = .pick c x y) (hc : axOf c = some c') (hx : axOf x = some x') (hy : axOf y = some y') :
    SR m φ σ w (hPick c' x' y' base τ σ) ((execOp a.eval o).run P w) := by
  have h := evR hT hc
  have hx := evR hT hx
  have hy := evR hT hy
  unfold hPick
  generalize ev τ c' = q at h
  generalize hv : a.eval c = v at h
  cases h <;> try exact trivial
  rename_i b
  cases b
  · exact .pure hH hy (by simp [execOp, ho, hv, asBool])
  · exact .pure hH hx (by simp [execOp, ho, hv, asBool])
theorem s_nilck (hT : TR φ N τ a) (hH : HR φ σ w) {x : Operand} {x' : AX} (ho : o.op = .nilCheck x) (hx : axOf x = some x') :
    SR m φ σ w (hNilck x' base τ σ) ((execOp a.eval o).run P w) := by
  have h := evR hT hx
  unfold hNilck
  generalize ev τ x' = q at h
  generalize hv : a.eval x = v at h
  cases h <;> try exact trivial
  rename_i h
  exact .pure hH (.ptr _ _ _ _ h) (by simp [execOp, ho, hv])
theorem s_mkfn (hT : TR φ N τ a) (hH : HR φ σ w) {f : FuncId} {xs ys : Array Operand} {xs' ys' : List AX} (ho : o.op = .makeFunc (.func f) xs ys) (hx : axsOf xs.toList = some xs') (hy : axsOf ys.toList = some ys') :
    SR m φ σ w (hMkfn f xs' ys' base τ σ) ((execOp a.eval o).run P w) := by
  have h1 := evsR hT hx
  have h2 := evsR hT hy
  refine .pure hH (.func _ _ _ _ _ h1 h2) ?_
  simp only [execOp, ho, Instr.makeFunc, Sem.run_bind, Sem.run_pure, Result.andThen_ok]
  congr 2
  rw [show (List.map a.eval xs.toList).toArray = xs.map a.eval from by apply Array.ext'; simp, show (List.map a.eval ys.toList).toArray = ys.map a.eval from by apply Array.ext'; simp]
theorem s_mkif (hT : TR φ N τ a) (hH : HR φ σ w) {t : TypeId} {d : TypeDesc} {x : Operand} {x' : AX} (ho : o.op = .makeInterface t x) (hu : P.underlying t = some d) (hd : ∀ ms, d ≠ .interface ms) (hx : axOf x = some x') :
    SR m φ σ w (hMkif t x' base τ σ) ((execOp a.eval o).run P w) := by
  refine .pure hH (.iface _ _ _ (evR hT hx)) ?_
  have : (Instr.makeInterface t (a.eval x)).run P w = .ok (.iface t (a.eval x)) w := by
    cases d <;> first | exact absurd rfl (hd _) | simp [Instr.makeInterface, run_underlying hu]
  simp [execOp, ho, this]
theorem s_ext (hT : TR φ N τ a) (hH : HR φ σ w) {x : Operand} {x' : AX} {i : Nat} (ho : o.op = .extract x i) (hx : axOf x = some x') :
    SR m φ σ w (hExt x' i base τ σ) ((execOp a.eval o).run P w) := by
  have h := evR hT hx
  unfold hExt
  generalize ev τ x' = q at h
  generalize hv : a.eval x = v at h
  cases h <;> try exact trivial
  rename_i l l' h
  have key : SR m φ σ w (ok? σ (nth8 l i)) ((execOp a.eval o).run P w) := by
    simp only [nth8_eq]
    cases hi : l[i]? with
    | none => exact trivial
    | some y =>
      obtain ⟨u, h1, h2⟩ := h.get i y hi
      exact .pure hH h2 (by simp [execOp, ho, hv, Instr.extract, h1])
  split
  · exact trivial
  · rename_i he; cases he; exact key
  · exact trivial
/-! Numbers, strings, truths -/
theorem ibits_eq {op : BinOp} {k : IntKind} {x y n : Int} (h : ibits op k x y = some n) : (Op.intBits op k x y).run P w = .ok (.int k n) w := by
  unfold ibits at h
  cases op <;> simp at h <;> subst h <;> simp [Op.intBits]
theorem ibin_R {op : BinOp} {k : IntKind} {x y : Int} {v : AV} (h : ibin op k x y = some v) (hsh : isShift op = false) (t : TypeId) :
    ∃ v', VR φ v v' ∧ (binOp op t (.int k x) (.int k y)).run P w = .ok v' w ∧ v'.oneCell' = true := by
  cases op <;> first | cases hsh | skip
  case add => cases h; exact ⟨_, .int _ _, by simp [binOp, Op.intArith, wrapF_eq, iadd_eq], rfl⟩
  case sub => cases h; exact ⟨_, .int _ _, by simp [binOp, Op.intArith, wrapF_eq], rfl⟩
  case mul => cases h; exact ⟨_, .int _ _, by simp [binOp, Op.intArith, wrapF_eq], rfl⟩
  case quo =>
    change ite8 (ieq y 0) none _ = some v at h
    rw [ieq_eq] at h
    by_cases hy : y = 0
    · subst hy; cases h
    · have : (y == 0) = false := by simpa using hy
      rw [this] at h; cases h
      exact ⟨_, .int _ _, by simp [binOp, Op.intDiv, wrapF_eq, hy], rfl⟩
  case rem =>
    change ite8 (ieq y 0) none _ = some v at h
    rw [ieq_eq] at h
    by_cases hy : y = 0
    · subst hy; cases h
    · have : (y == 0) = false := by simpa using hy
      rw [this] at h; cases h
      exact ⟨_, .int _ _, by simp [binOp, Op.intDiv, hy], rfl⟩
  case and => cases h; exact ⟨_, .int _ _, by simp [binOp, ibits_eq (op := .and) rfl], rfl⟩
  case or => cases h; exact ⟨_, .int _ _, by simp [binOp, ibits_eq (op := .or) rfl], rfl⟩
  case xor => cases h; exact ⟨_, .int _ _, by simp [binOp, ibits_eq (op := .xor) rfl], rfl⟩
  case andNot => cases h; exact ⟨_, .int _ _, by simp [binOp, ibits_eq (op := .andNot) rfl], rfl⟩
  case eql => cases h; exact ⟨_, .bool _, by simp [binOp, Op.intCmp, ieq_eq], rfl⟩
  case neq => cases h; exact ⟨_, .bool _, by simp [binOp, Op.intCmp, ieq_eq, not8_eq, bne], rfl⟩
  case lss => cases h; exact ⟨_, .bool _, by simp [binOp, Op.intCmp, ilt_eq], rfl⟩
  case leq => cases h; exact ⟨_, .bool _, by simp [binOp, Op.intCmp, ile_eq], rfl⟩
  case gtr => cases h; exact ⟨_, .bool _, by simp [binOp, Op.intCmp, ilt_eq], rfl⟩
  case geq => cases h; exact ⟨_, .bool _, by simp [binOp, Op.intCmp, ile_eq], rfl⟩
theorem ishift_R {op : BinOp} {k k' : IntKind} {x y : Int} {v : AV} (h : ishift op k x y = some v) (t : TypeId) :
    ∃ v', VR φ v v' ∧ (binOp op t (.int k x) (.int k' y)).run P w = .ok v' w := by
  unfold ishift at h
  by_cases hy : y < 0
  · rw [if_pos hy] at h; cases h
  · rw [if_neg hy] at h
    cases op <;> cases h
    · exact ⟨_, .int _ _, by simp [binOp, Op.shift, hy]⟩
    · exact ⟨_, .int _ _, by simp [binOp, Op.shift, hy]⟩
theorem bstr_list (l : List Nat) : (bstr l).data.toList = l.map UInt8.ofNat := by simp [bstr]
theorem byteArray_toList (s : ByteArray) : s.toList = s.data.toList := by
  rw [ByteArray.toList]
  exact go s 0 [] s.data.toList (by simp) rfl
where
  go (s : ByteArray) (i : Nat) (r l : List UInt8) (hl : s.data.toList.drop i = l) (_ : True = True) : ByteArray.toList.loop s i r = r.reverse ++ l := by
    induction l generalizing i r with
    | nil =>
      unfold ByteArray.toList.loop
      have hi : ¬ i < s.size := by
        have := congrArg List.length hl
        simp at this
        have e : s.size = s.data.size := rfl
        omega
      rw [if_neg hi]; simp
    | cons b l ih =>
      unfold ByteArray.toList.loop
      have hi : i < s.size := by
        have := congrArg List.length hl
        simp at this
        have e : s.size = s.data.size := rfl
        omega
      rw [if_pos hi]
      have hb : s.get! i = b := by
        have := congrArg List.head? hl
        rw [List.head?_drop] at this
        simp at this
        have h2 : s.data[i]? = some b := by simpa using this
        show s.data[i]! = b
        simp [Array.getElem!_eq_getD, Array.getD_eq_getD_getElem?, h2]
      rw [hb, ih (i + 1) (b :: r) (by rw [← List.drop_drop, hl]; rfl)]
      simp
theorem ofNat_inj {a b : Nat} (ha : a < 256) (hb : b < 256) (h : UInt8.ofNat a = UInt8.ofNat b) : a = b := by
  have := congrArg UInt8.toNat h
  simp at this
  omega
theorem map_ofNat_inj : ∀ {l r : List Nat}, isBytes l → isBytes r → l.map UInt8.ofNat = r.map UInt8.ofNat → l = r := by
  intro l
  induction l with
  | nil => intro r _ _ h; cases r <;> simp at h ⊢
  | cons x l ih =>
    intro r hl hr h
    cases r with
    | nil => simp at h
    | cons y r =>
      simp only [List.map_cons, List.cons.injEq] at h
      rw [ofNat_inj (hl x (by simp)) (hr y (by simp)) h.1, ih (fun z hz => hl z (by simp [hz])) (fun z hz => hr z (by simp [hz])) h.2]
theorem bytesLess_map : ∀ {l r : List Nat}, isBytes l → isBytes r → Op.bytesLess (l.map UInt8.ofNat) (r.map UInt8.ofNat) = slt8 l r := by
  intro l
  induction l with
  | nil => intro r _ _; cases r <;> rfl
  | cons x l ih =>
    intro r hl hr
    cases r with
    | nil => rfl
    | cons y r =>
      change Op.bytesLess (UInt8.ofNat x :: l.map UInt8.ofNat) (UInt8.ofNat y :: r.map UInt8.ofNat) = ite8 (Nat.beq x y) (slt8 l r) (Nat.ble x y)
      rw [Op.bytesLess, ih (fun z hz => hl z (by simp [hz])) (fun z hz => hr z (by simp [hz]))]
      have hx := hl x (by simp); have hy := hr y (by simp)
      have e1 : (UInt8.ofNat x < UInt8.ofNat y) ↔ x < y := by
        rw [UInt8.lt_iff_toNat_lt]; simp; omega
      have e2 : (UInt8.ofNat x = UInt8.ofNat y) ↔ x = y := ⟨ofNat_inj hx hy, fun h => by rw [h]⟩
      by_cases h : x = y
      · subst h
        have : Nat.beq x x = true := by simp
        rw [this]; simp
      · have h1 : Nat.beq x y = false := by rw [← Bool.not_eq_true]; simpa using h
        rw [h1]
        simp only [e1, e2, h, decide_false, Bool.false_and, Bool.or_false, ite8_false]
        rw [Bool.eq_iff_iff]; simp [Nat.ble_eq, beq_iff_eq, e2, h]; omega
theorem bstr_append (l r : List Nat) : bstr (l ++ r) = bstr l ++ bstr r := by
  apply ByteArray.ext
  apply Array.ext'
  simp [bstr, ByteArray.data_append]
theorem isBytes_append {l r : List Nat} (h : isBytes l) (k : isBytes r) : isBytes (l ++ r) := fun x hx => by
  rcases List.mem_append.1 hx with h1 | h1
  · exact h x h1
  · exact k x h1
theorem bstr_size (l : List Nat) : (bstr l).size = l.length := by simp [bstr, ByteArray.size]
end
end Go.Dk
namespace Go.Dk
open Go
variable [Keep]
section
variable {P : Program} {m : Id → Prop} {N : Nat} {φ : Emb} {σ : H} {w : World} {τ : Fr} {a : Act} {o : Oper} {base : Id}

theorem sbin_R {op : BinOp} {l r : List Nat} {v : AV} (hl : isBytes l) (hr : isBytes r) (h : sbin op l r = some v) (t : TypeId) :
    ∃ v', VR φ v v' ∧ (binOp op t (.string (bstr l)) (.string (bstr r))).run P w = .ok v' w := by
  have e1 : ((bstr l).toList == (bstr r).toList) = seq8 l r := by
    rw [byteArray_toList, byteArray_toList, bstr_list, bstr_list, seq8_eq, Bool.eq_iff_iff]
    simp only [beq_iff_eq, decide_eq_true_eq]
    exact ⟨map_ofNat_inj hl hr, fun h => by rw [h]⟩
  have e2 : Op.bytesLess (bstr l).toList (bstr r).toList = slt8 l r := by
    rw [byteArray_toList, byteArray_toList, bstr_list, bstr_list, bytesLess_map hl hr]
  have e3 : Op.bytesLess (bstr r).toList (bstr l).toList = slt8 r l := by
    rw [byteArray_toList, byteArray_toList, bstr_list, bstr_list, bytesLess_map hr hl]
  have e4 : (slt8 l r || seq8 l r) = !slt8 r l := by
    rw [seq8_eq]
    clear e1 e2 e3 h hl hr
    induction l generalizing r with
    | nil => cases r <;> rfl
    | cons x l ih =>
      cases r with
      | nil => rfl
      | cons y r =>
        change (ite8 (Nat.beq x y) (slt8 l r) (Nat.ble x y) || _) = !ite8 (Nat.beq y x) (slt8 r l) (Nat.ble y x)
        by_cases h : x = y
        · subst h
          have : Nat.beq x x = true := by simp
          rw [this]; change (slt8 l r || _) = !slt8 r l; rw [← ih]; simp
        · have h1 : Nat.beq x y = false := by rw [← Bool.not_eq_true]; simpa using h
          have h2 : Nat.beq y x = false := by rw [← Bool.not_eq_true]; simpa using Ne.symm h
          rw [h1, h2]; change (Nat.ble x y || _) = !Nat.ble y x
          have h3 : decide (x :: l = y :: r) = false := by simp [h]
          rw [h3, Bool.or_false, Bool.eq_iff_iff]
          have h4 : (!Nat.ble y x) = true ↔ ¬ (y ≤ x) := by rw [← Nat.ble_eq]; cases Nat.ble y x <;> simp
          rw [h4, Nat.ble_eq]; omega
  cases op <;> try cases h
  · change ite8 (Nat.ble (len8 (app8 l r)) 1099511627776) (some (.str (app8 l r))) none = some v at h
    cases hsz : Nat.ble (len8 (app8 l r)) 1099511627776 with
    | false => rw [hsz] at h; cases h
    | true =>
    rw [hsz] at h
    cases h
    have hsz := Nat.le_of_ble_eq_true hsz
    rw [len8_eq, app8_eq, List.length_append] at hsz
    refine ⟨_, .str _ (by rw [app8_eq]; exact isBytes_append hl hr), ?_⟩
    simp only [binOp, Op.stringOp, bstr_size, app8_eq, bstr_append]
    rw [if_neg (by simp [IntKind.max, IntKind.signed, IntKind.bits]; omega)]
    rfl
  · exact ⟨_, .bool _, by simp only [binOp, Op.stringOp, e1]; rfl⟩
  · exact ⟨_, .bool _, by simp only [binOp, Op.stringOp, e1, not8_eq]; rfl⟩
  · exact ⟨_, .bool _, by simp only [binOp, Op.stringOp, e2]; rfl⟩
  · exact ⟨_, .bool _, by simp only [binOp, Op.stringOp, e1, e2, not8_eq, e4]; rfl⟩
  · refine ⟨_, .bool (slt8 r l), ?_⟩
    simp only [binOp, Op.stringOp, e1, e2, e4]
    simp
  · exact ⟨_, .bool _, by simp only [binOp, Op.stringOp, e2, not8_eq]; rfl⟩
theorem pbin_R {op : BinOp} {k : IntKind} {ops : List (BinOp × Int)} {r n : Int} {y : AV} {y' : Value} {v : AV} (h : pbin op k ops r y = some v) (hp : runPend k ops n = some r) (hy : VR φ y y') (t : TypeId) (hsh : isShift op = false) :
    ∃ v', VR φ v v' ∧ (binOp op t (.int k n) y').run P w = .ok v' w := by
  unfold pbin at h
  split at h
  · rename_i o c rest k' n'
    cases hy
    by_cases hc : o = op ∧ k = k' ∧ n' = c
    · rw [if_pos hc] at h
      obtain ⟨rfl, rfl, rfl⟩ := hc
      rw [runPend] at hp
      split at hp
      · rename_i k2 q hq
        obtain ⟨v', h1, h2, _⟩ := ibin_R (P := P) (φ := φ) (w := w) hq hsh t
        cases h1
        refine ⟨.int k2 q, ?_, h2⟩
        have hk : k2 = k := by
          cases o <;> first | (cases hq; rfl) | skip
          all_goals (simp only [ibin, ite8] at hq; revert hq; cases ieq n' 0 <;> intro hq <;> cases hq <;> rfl)
        subst hk
        cases rest with
        | nil => cases hp; cases h; exact .int _ _
        | cons p rest => cases h; exact .pend _ _ _ _ hp (by simp)
      · cases hp
    · rw [if_neg hc] at h; cases h
  · cases h
theorem s_bin (hT : TR φ N τ a) (hH : HR φ σ w) {op : BinOp} {t u : TypeId} {x y : Operand} {x' y' : AX} (ho : o.op = .binOp op t x y u) (hx : axOf x = some x') (hy : axOf y = some y') :
    SR m φ σ w (hBin op x' y' base τ σ) ((execOp a.eval o).run P w) := by
  have h1 := evR hT hx
  have h2 := evR hT hy
  have key : ∀ v v', VR φ v v' → (binOp op t (a.eval x) (a.eval y)).run P w = .ok v' w → (eqGuard op t x y (a.eval x) (a.eval y)).run P w = .ok () w →
      SR m φ σ w (ok? σ (some v)) ((execOp a.eval o).run P w) := fun v v' hv hb hg =>
    .pure hH hv (by simp [execOp, ho, hb, hg])
  unfold hBin
  generalize hxe : ev τ x' = q at h1
  generalize hye : ev τ y' = p at h2
  generalize hxv : a.eval x = v1 at h1 key
  generalize hyv : a.eval y = v2 at h2 key
  cases h1 <;> try exact trivial
  · rename_i k n
    change SR m φ σ w (ok? σ (p.asInt none fun k' b => ite8 (isShift op) (ishift op k n b) (ite8 (keq k k') (ibin op k n b) none))) _
    cases h2 <;> try exact trivial
    rename_i k' n'
    have hg : ∀ w, (eqGuard op t x y (.int k n) (.int k' n')).run P w = .ok () w := fun w => by
      unfold eqGuard; split <;> simp
    change SR m φ σ w (ok? σ (ite8 (isShift op) (ishift op k n n') (ite8 (keq k k') (ibin op k n n') none))) _
    cases hs : isShift op with
    | true =>
      change SR m φ σ w (ok? σ (ishift op k n n')) _
      cases hr : ishift op k n n' with
      | none => exact trivial
      | some v => obtain ⟨v', h3, h4⟩ := ishift_R (P := P) (φ := φ) (w := w) (k' := k') hr t; exact key v v' h3 h4 (hg w)
    | false =>
      change SR m φ σ w (ok? σ (ite8 (keq k k') (ibin op k n n') none)) _
      rw [keq_eq]
      by_cases hk : k = k'
      · subst hk
        rw [decide_eq_true rfl]
        change SR m φ σ w (ok? σ (ibin op k n n')) _
        cases hr : ibin op k n n' with
        | none => exact trivial
        | some v => obtain ⟨v', h3, h4, _⟩ := ibin_R (P := P) (φ := φ) (w := w) hr hs t; exact key v v' h3 h4 (hg w)
      · rw [decide_eq_false hk]; exact trivial
  · rename_i l hl
    change SR m φ σ w (ok? σ (p.asStr none fun b => sbin op l b)) _
    cases h2 <;> try exact trivial
    rename_i r hr
    change SR m φ σ w (ok? σ (sbin op l r)) _
    have hg : ∀ w, (eqGuard op t x y (.string (bstr l)) (.string (bstr r))).run P w = .ok () w := fun w => by
      unfold eqGuard; split <;> simp
    cases hv : sbin op l r with
    | none => exact trivial
    | some v => obtain ⟨v', h3, h4⟩ := sbin_R (P := P) (φ := φ) (w := w) hl hr hv t; exact key v v' h3 h4 (hg w)
  · rename_i k ops r n hp hne
    change SR m φ σ w (ok? σ (pbin op k ops r p)) _
    cases hv : pbin op k ops r p with
    | none => exact trivial
    | some v =>
      have hs : isShift op = false := by
        unfold pbin at hv
        split at hv
        · rename_i o c rest k' n'
          by_cases hc : o = op ∧ k = k' ∧ n' = c
          · obtain ⟨rfl, _, _⟩ := hc
            rw [runPend] at hp
            cases o <;> first | rfl | (simp [ibin] at hp)
          · rw [if_neg hc] at hv; cases hv
        · cases hv
      have hg : ∀ w, (eqGuard op t x y (.int k n) v2).run P w = .ok () w := fun w => by
        unfold eqGuard; split <;> simp
      obtain ⟨v', h3, h4⟩ := pbin_R (P := P) (φ := φ) (w := w) hv hp h2 t hs
      exact key v v' h3 h4 (hg w)
theorem s_un (hT : TR φ N τ a) (hH : HR φ σ w) {op : UnOp} {t : TypeId} {x : Operand} {x' : AX} (ho : o.op = .unOp op t x) (hx : axOf x = some x') :
    SR m φ σ w (hUn op x' base τ σ) ((execOp a.eval o).run P w) := by
  have h := evR hT hx
  unfold hUn
  generalize ev τ x' = q at h
  generalize hv : a.eval x = v at h
  cases op <;> cases h <;> try exact trivial
  · exact .pure hH (.int _ _) (by simp [execOp, ho, hv, Op.unary, Op.intArith])
  · exact .pure hH (.bool _) (by simp [execOp, ho, hv, Op.unary, not8_eq])
theorem s_convI (hT : TR φ N τ a) (hH : HR φ σ w) {s d : TypeId} {k k0 : IntKind} {x : Operand} {x' : AX} (ho : o.op = .convert s d x) (hs : P.underlying s = some (.int k0)) (hd : P.underlying d = some (.int k)) (hx : axOf x = some x') :
    SR m φ σ w (hConvI k x' base τ σ) ((execOp a.eval o).run P w) := by
  have h := evR hT hx
  unfold hConvI
  generalize ev τ x' = q at h
  generalize hv : a.eval x = v at h
  cases h <;> try exact trivial
  exact .pure hH (.int _ _) (by simp [execOp, ho, hv, convert, run_underlying hs, run_underlying hd, Conv.intToInt, wrapF_eq])
theorem s_convSS (hT : TR φ N τ a) (hH : HR φ σ w) {s d : TypeId} {x : Operand} {x' : AX} (ho : o.op = .convert s d x) (hs : P.underlying s = some .string) (hd : P.underlying d = some .string) (hx : axOf x = some x') :
    SR m φ σ w (hConvSS x' base τ σ) ((execOp a.eval o).run P w) := by
  have h := evR hT hx
  unfold hConvSS
  generalize ev τ x' = q at h
  generalize hv : a.eval x = v at h
  cases h <;> try exact trivial
  rename_i l hl
  exact .pure hH (.str l hl) (by simp [execOp, ho, hv, convert, run_underlying hs, run_underlying hd])
/-! '==' -/
theorem run_equal_prim {t : TypeId} {p : PK} (ht : primK P t = some p) {x y : AV} {x' y' : Value} {b : Bool} (h : flat1 p x y = some b) (hx : VR φ x x') (hy : VR φ y y') (d : Nat) :
    (Op.equalIn (d + 1) t x' y').run P w = .ok b w := by
  unfold primK at ht
  cases hu : P.underlying t with
  | none => simp [hu] at ht
  | some u =>
    cases u <;> simp [hu] at ht <;> subst ht
    · change x.asBool none _ = some b at h
      cases hx <;> try cases h
      change y.asBool none _ = some b at h
      cases hy <;> try cases h
      rename_i p q
      simp [Op.equalIn, run_underlying hu]
      cases p <;> cases q <;> rfl
    · change x.asInt none _ = some b at h
      cases hx <;> try cases h
      rename_i k p
      change y.asInt none _ = some b at h
      cases hy <;> try cases h
      rename_i k' q
      change ite8 (keq k k') (some (ieq p q)) none = some b at h
      rw [keq_eq] at h
      by_cases hk : k = k'
      · subst hk
        simp at h
        simp [Op.equalIn, run_underlying hu, ← h, ieq_eq]
      · simp [hk] at h
    · change x.asStr none _ = some b at h
      cases hx <;> try cases h
      rename_i l hl
      change y.asStr none _ = some b at h
      cases hy <;> try cases h
      rename_i r hr
      have e : (bstr l == bstr r) = seq8 l r := by
        rw [beq_toListBytes, byteArray_toList, byteArray_toList, bstr_list, bstr_list, seq8_eq, Bool.eq_iff_iff]
        simp only [beq_iff_eq, decide_eq_true_eq]
        exact ⟨map_ofNat_inj hl hr, fun h => by rw [h]⟩
      simp [Op.equalIn, run_underlying hu, e]
theorem prim_notAgg {t : TypeId} {p : PK} (ht : primK P t = some p) : ∃ d, P.underlying t = some d ∧ (isAgg t).run P w = .ok false w := by
  unfold primK at ht
  cases hu : P.underlying t with
  | none => simp [hu] at ht
  | some u => cases u <;> simp [hu] at ht <;> exact ⟨_, rfl, by simp [isAgg, run_underlying hu]⟩
theorem run_part_prim {t : TypeId} {p : PK} (ht : primK P t = some p) {xs : Array Value} {off : Nat} {v : Value} (h : xs[off]? = some v) : (part t xs off).run P w = .ok v w := by
  obtain ⟨d, _, h1⟩ := prim_notAgg (w := w) ht
  simp [part, h1, h]
theorem flats_cons {p : PK} {ps : List PK} {l r : List AV} {b : Bool} (h : flats (p :: ps) l r = some b) :
    ∃ x l' y r' e, l = x :: l' ∧ r = y :: r' ∧ flat1 p x y = some e ∧ (e = true → flats ps l' r' = some b) ∧ (e = false → b = false) := by
  cases l with
  | nil => cases h
  | cons x l =>
    cases r with
    | nil => cases h
    | cons y r =>
      change Option.rec (motive := fun _ => Option Bool) none (fun e => ite8 e (flats ps l r) (ite8 (Nat.beq (len8 l) (len8 r)) (some false) none)) (flat1 p x y) = some b at h
      cases he : flat1 p x y with
      | none => rw [he] at h; cases h
      | some e =>
        rw [he] at h
        refine ⟨x, l, y, r, e, rfl, rfl, he, fun h1 => by subst h1; exact h, fun h1 => ?_⟩
        subst h1
        change ite8 (Nat.beq (len8 l) (len8 r)) (some false) none = some b at h
        cases h2 : Nat.beq (len8 l) (len8 r) <;> rw [h2] at h <;> cases h
        rfl
theorem flats_nil {l r : List AV} {b : Bool} (h : flats [] l r = some b) : l = [] ∧ r = [] ∧ b = true := by
  cases l with
  | nil => cases r with
    | nil => cases h; exact ⟨rfl, rfl, rfl⟩
    | cons y r => cases h
  | cons x l => cases h
theorem eqFields_R (d : Nat) {xs ys : Array Value} : ∀ {fs : List Field} {ps : List PK} {l r : List AV} {b : Bool} (n : Nat), flatS P fs n = some ps → flats ps l r = some b → VRs φ l (xs.toList.drop n) → VRs φ r (ys.toList.drop n) →
    (Op.eqFields (d + 1) xs ys fs).run P w = .ok b w := by
  intro fs
  induction fs with
  | nil =>
    intro ps l r b n hf h _ _
    cases hf
    obtain ⟨_, _, rfl⟩ := flats_nil h
    rfl
  | cons f fs ih =>
    intro ps l r b n hf h hx hy
    unfold flatS at hf
    split at hf
    · rename_i k q hk hq
      by_cases hc : (f.name != "_" && f.offset == n && size1 P f.type) = true
      · rw [if_pos hc] at hf
        cases hf
        simp only [Bool.and_eq_true, bne_iff_ne, ne_eq, beq_iff_eq] at hc
        obtain ⟨⟨hname, hoff⟩, hsz⟩ := hc
        obtain ⟨x, l', y, r', e, rfl, rfl, he, h1, h2⟩ := flats_cons h
        cases hxd : xs.toList.drop n with
        | nil => rw [hxd] at hx; cases hx
        | cons v xs' =>
        cases hyd : ys.toList.drop n with
        | nil => rw [hyd] at hy; cases hy
        | cons u ys' =>
        rw [hxd] at hx; rw [hyd] at hy
        cases hx with | cons _ _ _ _ hxv hxt =>
        cases hy with | cons _ _ _ _ hyu hyt =>
        have g1 : xs[f.offset]? = some v := by
          rw [hoff]
          have := congrArg List.head? hxd
          rw [List.head?_drop] at this
          simpa using this
        have g2 : ys[f.offset]? = some u := by
          rw [hoff]
          have := congrArg List.head? hyd
          rw [List.head?_drop] at this
          simpa using this
        have n1 : xs.toList.drop (n + 1) = xs' := by rw [← List.drop_drop, hxd]; rfl
        have n2 : ys.toList.drop (n + 1) = ys' := by rw [← List.drop_drop, hyd]; rfl
        rw [Op.eqFields, if_pos hname]
        simp only [Sem.run_bind, run_part_prim hk g1, run_part_prim hk g2, Result.andThen_ok, run_equal_prim hk he hxv hyu d]
        cases e with
        | true =>
          simp only [Bool.not_true, Bool.false_eq_true, if_false]
          exact ih (n + 1) hq (h1 rfl) (n1 ▸ hxt) (n2 ▸ hyt)
        | false =>
          rw [h2 rfl]
          simp
      · rw [if_neg hc] at hf; cases hf
    · cases hf
theorem eqv_flat_R {t : TypeId} {ps : List PK} (ht : flatT P t = some ps) {l r : List AV} {xs ys : Array Value} {b : Bool} (h : flats ps l r = some b) (hx : VRs φ l xs.toList) (hy : VRs φ r ys.toList) (d : Nat) :
    (Op.equalIn (d + 2) t (.agg xs) (.agg ys)).run P w = .ok b w := by
  unfold flatT at ht
  split at ht
  · rename_i fs hu
    by_cases hs : P.stoodInHeld t = true
    · rw [if_pos hs] at ht; cases ht
    · rw [if_neg hs] at ht
      have hfo : P.fieldsOf t = fs := by simp [Program.fieldsOf, hu]
      rw [run_equalIn_struct w (d + 1) t xs ys (by rw [hfo]; exact hu) (by simpa using hs), hfo]
      exact eqFields_R d 0 ht h (by simpa using hx) (by simpa using hy)
  · rename_i n e hu
    split at ht
    · rename_i k hk
      by_cases hsz : size1 P e = true
      · rw [if_pos hsz] at ht
        cases ht
        unfold size1 at hsz
        cases hi : P.info? e with
        | none => rw [hi] at hsz; cases hsz
        | some i =>
        rw [hi] at hsz
        have hi1 : P.cellsOf e = 1 := by simpa [Program.cellsOf, hi] using hsz
        rw [run_equalIn_array w (d + 1) xs ys hu hi, hi1, List.range_eq_range']
        exact arr d hk n 0 l r b h (by simpa using hx) (by simpa using hy)
      · rw [if_neg hsz] at ht; cases ht
    · cases ht
  · cases ht
where
  arr (d : Nat) {e : TypeId} {k : PK} (hk : primK P e = some k) {xs ys : Array Value} : ∀ (n i : Nat) (l r : List AV) (b : Bool), flats (List.replicate n k) l r = some b → VRs φ l (xs.toList.drop i) → VRs φ r (ys.toList.drop i) →
      (Op.eqItems (d + 1) e 1 xs ys (List.range' i n)).run P w = .ok b w := by
    intro n
    induction n with
    | zero =>
      intro i l r b h _ _
      obtain ⟨_, _, rfl⟩ := flats_nil h
      rfl
    | succ n ih =>
      intro i l r b h hx hy
      obtain ⟨x, l', y, r', e', rfl, rfl, he, h1, h2⟩ := flats_cons h
      cases hxd : xs.toList.drop i with
      | nil => rw [hxd] at hx; cases hx
      | cons v xs' =>
      cases hyd : ys.toList.drop i with
      | nil => rw [hyd] at hy; cases hy
      | cons u ys' =>
      rw [hxd] at hx; rw [hyd] at hy
      cases hx with | cons _ _ _ _ hxv hxt =>
      cases hy with | cons _ _ _ _ hyu hyt =>
      have g1 : xs[i * 1]? = some v := by
        have := congrArg List.head? hxd
        rw [List.head?_drop] at this
        simpa using this
      have g2 : ys[i * 1]? = some u := by
        have := congrArg List.head? hyd
        rw [List.head?_drop] at this
        simpa using this
      have n1 : xs.toList.drop (i + 1) = xs' := by rw [← List.drop_drop, hxd]; rfl
      have n2 : ys.toList.drop (i + 1) = ys' := by rw [← List.drop_drop, hyd]; rfl
      rw [List.range'_succ, Op.eqItems]
      simp only [Sem.run_bind, run_part_prim hk g1, run_part_prim hk g2, Result.andThen_ok, run_equal_prim hk he hxv hyu d]
      cases e' with
      | true =>
        simp only [Bool.not_true, Bool.false_eq_true, if_false]
        exact ih (i + 1) l' r' b (h1 rfl) (n1 ▸ hxt) (n2 ▸ hyt)
      | false =>
        rw [h2 rfl]
        simp
end
end Go.Dk
namespace Go.Dk
open Go
variable [Keep]
section
variable {P : Program} {m : Id → Prop} {N : Nat} {φ : Emb} {σ : H} {w : World} {τ : Fr} {a : Act} {o : Oper} {base : Id}

theorem eqGuard_other {t : TypeId} {x' y' : Value} (h1 : ∀ l r, ¬ (x' = .agg l ∧ y' = .agg r)) (h2 : ¬ (x' = .nilIface ∧ y' = .nilIface)) (op : BinOp) (p q : Operand) : (eqGuard op t p q x' y').run P w = .ok () w := by
  cases x' with
  | nilIface =>
    cases y' with
    | nilIface => exact (h2 ⟨rfl, rfl⟩).elim
    | _ => cases op <;> simp [eqGuard]
  | agg l =>
    cases y' with
    | agg r => exact (h1 _ _ ⟨rfl, rfl⟩).elim
    | _ => cases op <;> simp [eqGuard]
  | _ => cases op <;> simp [eqGuard]
/-- What is asked of '=='. -/
structure EqOK (P : Program) (w : World) (t : TypeId) (x' y' : Value) (ca e : Bool) : Prop where
  eq : (Op.equal t x' y').run P w = .ok e w
  guard : ∀ (op : BinOp) (p q : Operand), (isConst p || isConst q) = ca → (eqGuard op t p q x' y').run P w = .ok () w
  eql : binOp .eql t x' y' = (do pure (.bool (← Op.equal t x' y')))
  neq : binOp .neq t x' y' = (do pure (.bool (!(← Op.equal t x' y'))))
theorem EqOK.of {t : TypeId} {x' y' : Value} {ca e : Bool} (h : ∀ d, (Op.equalIn (d + 1) t x' y').run P w = .ok e w) (h1 : ∀ l r, ¬ (x' = .agg l ∧ y' = .agg r)) (h2 : ¬ (x' = .nilIface ∧ y' = .nilIface))
    (eql : binOp .eql t x' y' = (do pure (.bool (← Op.equal t x' y')))) (neq : binOp .neq t x' y' = (do pure (.bool (!(← Op.equal t x' y'))))) : EqOK P w t x' y' ca e :=
  ⟨h 9999, fun op p q _ => eqGuard_other h1 h2 op p q, eql, neq⟩
theorem eqBool_R {t : TypeId} {ca e : Bool} (hu : P.underlying t = some .bool) {x y : AV} {x' y' : Value} (h : flat1 .b x y = some e) (hx : VR φ x x') (hy : VR φ y y') : EqOK P w t x' y' ca e := by
  have hk : primK P t = some .b := by simp [primK, hu]
  have h0 := run_equal_prim (w := w) hk h hx hy
  change x.asBool none _ = some e at h
  cases hx <;> try (cases h; done)
  change y.asBool none _ = some e at h
  cases hy <;> try (cases h; done)
  exact .of h0 (by simp) (by simp) rfl rfl
theorem eqPtr_R {t el : TypeId} {i : TypeInfo} {ca e : Bool} (hu : P.underlying t = some (.pointer el)) (hi : P.info? el = some i) (hz : i.size ≠ 0) {x y : AV} {x' y' : Value} (h : eqPtr x y = some e) (hx : VR φ x x') (hy : VR φ y y') : EqOK P w t x' y' ca e := by
  cases hx <;> try (cases h; done)
  · cases hy <;> try (cases h; done)
    · rename_i b1 o1 c1 z1 h1 b2 o2 c2 z2 h2
      change (if b1 = b2 then some (Nat.beq o1 o2) else none) = some e at h
      by_cases hb : b1 = b2
      · subst hb
        rw [if_pos rfl] at h; cases h
        rw [h1] at h2; cases h2
        refine .of (fun d => ?_) (by simp) (by simp) rfl rfl
        have : (Nat.beq o1 o2) = decide (o1 = o2) := by rw [Bool.eq_iff_iff]; simp
        simp [Op.equalIn, run_underlying hu, sizeOf, typeInfo, hi, hz, sameAddr, this]
        rw [Bool.eq_iff_iff]; simp
      · rw [if_neg hb] at h; cases h
    · cases h
      exact .of (fun d => by simp [Op.equalIn, run_underlying hu]) (by simp) (by simp) rfl rfl
  · cases hy <;> try (cases h; done)
    · cases h
      exact .of (fun d => by simp [Op.equalIn, run_underlying hu]) (by simp) (by simp) rfl rfl
    · cases h
      exact .of (fun d => by simp [Op.equalIn, run_underlying hu]) (by simp) (by simp) rfl rfl
theorem eqSlice_R {t el : TypeId} {ca e : Bool} (hu : P.underlying t = some (.slice el)) {x y : AV} {x' y' : Value} (h : eqSlice x y = some e) (hx : VR φ x x') (hy : VR φ y y') : EqOK P w t x' y' ca e := by
  cases hx <;> try (cases h; done)
  all_goals
    cases hy <;> try (cases h; done)
    all_goals
      cases h
      exact .of (fun d => by simp [Op.equalIn, run_underlying hu]) (by simp) (by simp) rfl rfl
theorem eqMap_R {t k el : TypeId} {ca e : Bool} (hu : P.underlying t = some (.map k el)) {x y : AV} {x' y' : Value} (h : eqMap x y = some e) (hx : VR φ x x') (hy : VR φ y y') : EqOK P w t x' y' ca e := by
  cases hx <;> try (cases h; done)
  all_goals
    cases hy <;> try (cases h; done)
    all_goals
      cases h
      exact .of (fun d => by simp [Op.equalIn, run_underlying hu]) (by simp) (by simp) rfl rfl
theorem eqFunc_R {t : TypeId} {p r : Array TypeId} {v ca e : Bool} (hu : P.underlying t = some (.func p r v)) {x y : AV} {x' y' : Value} (h : eqFunc x y = some e) (hx : VR φ x x') (hy : VR φ y y') : EqOK P w t x' y' ca e := by
  cases hx <;> try (cases h; done)
  all_goals
    cases hy <;> try (cases h; done)
    all_goals
      cases h
      exact .of (fun d => by simp [Op.equalIn, run_underlying hu]) (by simp) (by simp) rfl rfl
theorem eqIface_R {t : TypeId} {ms : Array (String × TypeId)} {e : Bool} (hu : P.underlying t = some (.interface ms)) {x y : AV} {x' y' : Value} (h : eqIface x y = some e) (hx : VR φ x x') (hy : VR φ y y') : EqOK P w t x' y' true e := by
  cases hx <;> try (cases h; done)
  · cases hy <;> try (cases h; done)
    cases h
    exact .of (fun d => by simp [Op.equalIn, run_underlying hu]) (by simp) (by simp) rfl rfl
  · cases hy <;> try (cases h; done)
    · cases h
      exact .of (fun d => by simp [Op.equalIn, run_underlying hu]) (by simp) (by simp) rfl rfl
    · cases h
      have h0 : ∀ d, (Op.equalIn (d + 1) t .nilIface .nilIface).run P w = .ok true w := fun d => by simp [Op.equalIn, run_underlying hu]
      refine ⟨h0 9999, fun op p q hpq => ?_, rfl, rfl⟩
      cases op <;> first | rfl | (cases p <;> cases q <;> first | (cases hpq; done) | rfl)
theorem eqv_R {t : TypeId} {ca : Bool} {c : Cls} (hc : clsOf P t ca = some c) {x y : AV} {x' y' : Value} {e : Bool} (h : eqv c x y = some e) (hx : VR φ x x') (hy : VR φ y y') :
    EqOK P w t x' y' ca e := by
  unfold clsOf at hc
  have flat : ∀ {c : Cls}, (if P.eqGuardType P.depth t = true then none else (flatT P t).map Cls.flat) = some c → eqv c x y = some e → EqOK P w t x' y' ca e := by
    intro c hc h
    by_cases hg : P.eqGuardType P.depth t = true
    · rw [if_pos hg] at hc; cases hc
    · rw [if_neg hg] at hc
      cases hf : flatT P t with
      | none => rw [hf] at hc; cases hc
      | some ps =>
        rw [hf] at hc
        cases hc
        change eqFlat ps x y = some e at h
        unfold eqFlat at h
        split at h
        · obtain ⟨l1, rfl, h1, _⟩ := hx.agg_inv
          obtain ⟨l2, rfl, h2, _⟩ := hy.agg_inv
          exact ⟨eqv_flat_R hf h (by simpa using h1) (by simpa using h2) 9998, fun op p q _ => run_eqGuard_agg w op t p q _ _ (by simpa using hg), rfl, rfl⟩
        · cases h
  cases hu : P.underlying t with
  | none => simp [hu] at hc
  | some d =>
    rw [hu] at hc
    cases d <;> simp only [reduceCtorEq] at hc
    case bool => cases hc; exact eqBool_R hu h hx hy
    case pointer el =>
      cases hi : P.info? el with
      | none => simp [hi] at hc
      | some i =>
      rw [hi] at hc
      by_cases hz : i.size ≠ 0
      · simp only [if_pos hz] at hc; cases hc; exact eqPtr_R hu hi hz h hx hy
      · simp only [if_neg hz] at hc; cases hc
    case slice el => cases hc; exact eqSlice_R hu h hx hy
    case map k el => cases hc; exact eqMap_R hu h hx hy
    case func p r v => cases hc; exact eqFunc_R hu h hx hy
    case interface ms =>
      by_cases hca : ca = true
      · subst hca; simp only [if_true] at hc; cases hc; exact eqIface_R hu h hx hy
      · simp only [if_neg hca] at hc; cases hc
    all_goals exact flat hc h
theorem s_eq (hT : TR φ N τ a) (hH : HR φ σ w) {op : BinOp} {neg : Bool} {t u : TypeId} {x y : Operand} {x' y' : AX} {c : Cls} (ho : o.op = .binOp op t x y u) (hop : (op = .eql ∧ neg = false) ∨ (op = .neq ∧ neg = true))
    (hx : axOf x = some x') (hy : axOf y = some y') (hc : clsOf P t (isConst x || isConst y) = some c) :
    SR m φ σ w (hEq neg c x' y' base τ σ) ((execOp a.eval o).run P w) := by
  unfold hEq
  cases he : eqv c (ev τ x') (ev τ y') with
  | none => exact trivial
  | some e =>
    obtain ⟨h1, h2, h3, h4⟩ := eqv_R (P := P) (w := w) hc he (evR hT hx) (evR hT hy)
    have h2 := h2 op x y rfl
    rcases hop with ⟨rfl, rfl⟩ | ⟨rfl, rfl⟩
    · exact .pure hH (.bool e) (by simp [execOp, ho, h2, h3, h1])
    · refine .pure hH (.bool (not8 e)) ?_
      simp [execOp, ho, h2, h4, h1, not8_eq]

/-! Parts and places -/
theorem aggN_R {t : TypeId} {n : Option Nat} (h : aggN P t = some n) : ∃ d, P.underlying t = some d ∧
    (∀ w, (isAgg t).run P w = .ok n.isSome w) ∧ ∀ k, n = some k → ∃ i, P.info? t = some i ∧ i.size = k := by
  unfold aggN at h
  split at h
  · rename_i fs i hu hi; cases h; exact ⟨_, hu, fun w => by simp [isAgg, run_underlying hu], fun k hk => ⟨i, hi, by cases hk; rfl⟩⟩
  · rename_i q e i hu hi; cases h; exact ⟨_, hu, fun w => by simp [isAgg, run_underlying hu], fun k hk => ⟨i, hi, by cases hk; rfl⟩⟩
  · rename_i d _ hn1 hn2 hu _
    cases h
    refine ⟨_, hu, fun w => ?_, fun k hk => by cases hk⟩
    cases d <;> first | (exact (hn1 _ rfl).elim) | (exact (hn2 _ _ rfl).elim) | simp [isAgg, run_underlying hu]
  · cases h
theorem take8_R {n : Nat} {l r : List AV} {l' : List Value} (h : take8 n l = some r) (hl : VRs φ l l') : VRs φ r (l'.take n) := by
  obtain ⟨_, rfl⟩ := take8_eq n l r h
  exact hl.take n
theorem partA_R {t : TypeId} {n : Option Nat} (ht : aggN P t = some n) {l : List AV} {cs : Array Value} (hl : VRs φ l cs.toList) (h1 : ∀ x ∈ l, x.one = true) {off : Nat} {v : AV} (h : partA n l off = some v) :
    ∃ v', VR φ v v' ∧ (part t cs off).run P w = .ok v' w := by
  obtain ⟨d, hu, ha, hn⟩ := aggN_R ht
  cases n with
  | none =>
    change nth8 l off = some v at h
    rw [nth8_eq] at h
    obtain ⟨v', h2, h3⟩ := hl.get off v h
    exact ⟨v', h3, by simp [part, ha w, by simpa using h2]⟩
  | some n =>
    change Option.rec (motive := fun _ => Option AV) none (fun r => some (.agg r)) (take8 n (drop8 off l)) = some v at h
    cases hq : take8 n (drop8 off l) with
    | none => rw [hq] at h; cases h
    | some r =>
      rw [hq] at h; cases h
      obtain ⟨i, hi, hs⟩ := hn n rfl
      have h2 := take8_eq _ _ _ hq
      rw [drop8_eq] at h2
      refine ⟨.agg ((cs.toList.drop off).take n).toArray, .agg _ _ (h2.2 ▸ (hl.drop off).take n) (fun x hx => h1 x ?_), ?_⟩
      · rw [h2.2] at hx; exact List.mem_of_mem_drop (List.mem_of_mem_take hx)
      · have e : cs.extract off (off + n) = ((cs.toList.drop off).take n).toArray := by
          apply Array.ext'
          simp [List.extract_eq_take_drop]
        simp [part, ha w, sizeOf, typeInfo, hi, hs, e]
theorem s_field (hT : TR φ N τ a) (hH : HR φ σ w) {s : TypeId} {fs : Array Field} {i : Nat} {f : Field} {n : Option Nat} {x : Operand} {x' : AX} (ho : o.op = .field s x i) (hu : P.underlying s = some (.struct fs)) (hf : fs[i]? = some f)
    (hn : aggN P f.type = some n) (hx : axOf x = some x') : SR m φ σ w (hField f.offset n x' base τ σ) ((execOp a.eval o).run P w) := by
  have h := evR hT hx
  unfold hField
  generalize ev τ x' = q at h
  generalize hv : a.eval x = v at h
  cases h <;> try exact trivial
  rename_i l l' hl h1
  change SR m φ σ w (ok? σ (partA n l f.offset)) _
  cases hp : partA n l f.offset with
  | none => exact trivial
  | some v =>
    obtain ⟨v', h2, h3⟩ := partA_R (w := w) hn (cs := l'.toArray) (by simpa using hl) h1 hp
    exact .pure hH h2 (by simp [execOp, ho, hv, Instr.field, run_underlying hu, hf, asAgg, h3])
theorem add_eq (c o n : Nat) : (⟨c, o, none⟩ : Addr).add n = ⟨c, o + n, none⟩ := by unfold Addr.add; split <;> simp_all
theorem s_fieldA (hT : TR φ N τ a) (hH : HR φ σ w) {s : TypeId} {fs : Array Field} {i : Nat} {f : Field} {j : TypeInfo} {x : Operand} {x' : AX} (ho : o.op = .fieldAddr s x i) (hu : P.underlying s = some (.struct fs)) (hf : fs[i]? = some f)
    (hj : P.info? f.type = some j) (hz : j.size ≠ 0) (hx : axOf x = some x') : SR m φ σ w (hFieldA f.offset x' base τ σ) ((execOp a.eval o).run P w) := by
  have h := evR hT hx
  unfold hFieldA
  generalize ev τ x' = q at h
  generalize hv : a.eval x = v at h
  cases h <;> try exact trivial
  rename_i b p c z hb
  exact .pure hH (.ptr _ _ _ _ hb) (by simp [execOp, ho, hv, Instr.fieldAt, run_underlying hu, hf, Instr.sureAddr, fieldPlace, sizeOf, typeInfo, hj, hz, add_eq])
theorem below_R {v : AV} {n : Nat} {k : Nat → OR} (h : below v n k ≠ .no) : ∃ kd q, v = .int kd (.ofNat q) ∧ q < n ∧ below v n k = k q := by
  cases v <;> try exact absurd rfl h
  rename_i kd i
  cases i with
  | negSucc q => exact absurd rfl h
  | ofNat q =>
    change ite8 (Nat.ble (Nat.succ q) n) (k q) .no ≠ .no at h
    refine ⟨kd, q, rfl, ?_, ?_⟩
    · cases hb : Nat.ble (Nat.succ q) n with
      | false => rw [hb] at h; exact absurd rfl h
      | true => exact Nat.le_of_ble_eq_true hb
    · change ite8 (Nat.ble (Nat.succ q) n) (k q) .no = k q
      cases hb : Nat.ble (Nat.succ q) n with
      | false => rw [hb] at h; exact absurd rfl h
      | true => rfl
theorem SR.no_or {r : OR} {res : Result Next} (h : r ≠ .no → SR m φ σ w r res) : SR m φ σ w r res := by
  cases r with
  | no => exact trivial
  | ok v σ' => exact h (by simp)
  | call k args => exact h (by simp)
theorem s_idxA_slice (hT : TR φ N τ a) (hH : HR φ σ w) {t e : TypeId} {j : TypeInfo} {x i : Operand} {x' i' : AX} (ho : o.op = .indexAddr t x i) (hu : P.underlying t = some (.slice e)) (hj : P.info? e = some j) (hx : axOf x = some x') (hi : axOf i = some i') :
    SR m φ σ w (hIdxA none j.size x' i' base τ σ) ((execOp a.eval o).run P w) := by
  have h := evR hT hx
  have h2 := evR hT hi
  refine .no_or fun hne => ?_
  unfold hIdxA at hne ⊢
  generalize ev τ x' = q at h hne
  generalize hv : a.eval x = v at h
  cases h <;> try exact absurd rfl hne
  case' sliceK b p n es cap c z hb => skip
  case' sliceU b p n es cap c z hb hn hz => skip
  all_goals
    change below (ev τ i') n (fun k => .ok (.ptr b (Nat.add p (Nat.mul k j.size))) σ) ≠ .no at hne
    change SR m φ σ w (below (ev τ i') n (fun k => .ok (.ptr b (Nat.add p (Nat.mul k j.size))) σ)) _
    obtain ⟨kd, q, hq, hlt, he⟩ := below_R hne
    rw [he]
    rw [hq] at h2
    generalize hiv : a.eval i = vi at h2
    cases h2
    refine .pure hH (.ptr _ _ c z ‹_›) ?_
    have hlt' : (Int.ofNat q) < (n : Int) := Int.ofNat_lt.2 hlt
    have h0 : 0 ≤ (Int.ofNat q) := Int.natCast_nonneg q
    simp only [execOp, ho, Sem.run_bind, Instr.indexAt, asIntOf, hiv, hv, run_underlying hu, Sem.run_pure, Result.andThen_ok, h0, hlt', and_self, if_true, sizeOf, typeInfo, run_program, hj, add_eq]
    simp [run_underlying hu, hj, add_eq]
theorem s_idxA_arr (hT : TR φ N τ a) (hH : HR φ σ w) {t e : TypeId} {n : Nat} {j : TypeInfo} {x i : Operand} {x' i' : AX} (ho : o.op = .indexAddr t x i) (hu : P.underlying t = some (.array n e)) (hj : P.info? e = some j) (hx : axOf x = some x') (hi : axOf i = some i') :
    SR m φ σ w (hIdxA (some n) j.size x' i' base τ σ) ((execOp a.eval o).run P w) := by
  have h := evR hT hx
  have h2 := evR hT hi
  refine .no_or fun hne => ?_
  unfold hIdxA at hne ⊢
  generalize ev τ x' = q at h hne
  generalize hv : a.eval x = v at h
  cases h <;> try exact absurd rfl hne
  rename_i b p c z hb
  change below (ev τ i') n (fun k => .ok (.ptr b (Nat.add p (Nat.mul k j.size))) σ) ≠ .no at hne
  change SR m φ σ w (below (ev τ i') n (fun k => .ok (.ptr b (Nat.add p (Nat.mul k j.size))) σ)) _
  obtain ⟨kd, q, hq, hlt, he⟩ := below_R hne
  rw [he]
  rw [hq] at h2
  generalize hiv : a.eval i = vi at h2
  cases h2
  refine .pure hH (.ptr _ _ c z hb) ?_
  have hlt' : (Int.ofNat q) < (n : Int) := Int.ofNat_lt.2 hlt
  have h0 : 0 ≤ (Int.ofNat q) := Int.natCast_nonneg q
  simp only [execOp, ho, Sem.run_bind, Instr.indexAt, asIntOf, hiv, hv, run_underlying hu, Sem.run_pure, Result.andThen_ok, Instr.sureAddr, h0, hlt', and_self, if_true, sizeOf, typeInfo, run_program, hj, add_eq]
  simp [run_underlying hu, hj, add_eq]
theorem s_idxV (hT : TR φ N τ a) (hH : HR φ σ w) {t e : TypeId} {len : Nat} {j : TypeInfo} {n : Option Nat} {x i : Operand} {x' i' : AX} (ho : o.op = .index t x i) (hu : P.underlying t = some (.array len e)) (hj : P.info? e = some j) (hn : aggN P e = some n) (hx : axOf x = some x') (hi : axOf i = some i') :
    SR m φ σ w (hIdxV len j.size n x' i' base τ σ) ((execOp a.eval o).run P w) := by
  have h := evR hT hx
  have h2 := evR hT hi
  refine .no_or fun hne => ?_
  unfold hIdxV at hne ⊢
  generalize ev τ x' = q at h hne
  generalize hv : a.eval x = v at h
  cases h <;> try exact absurd rfl hne
  rename_i l l' hl h1
  change below (ev τ i') len (fun k => ok? σ (partA n l (k * j.size))) ≠ .no at hne
  change SR m φ σ w (below (ev τ i') len (fun k => ok? σ (partA n l (k * j.size)))) _
  obtain ⟨kd, q, hq, hlt, he⟩ := below_R hne
  rw [he]
  rw [hq] at h2
  generalize hiv : a.eval i = vi at h2
  cases h2
  cases hp : partA n l (q * j.size) with
  | none => exact trivial
  | some v =>
    obtain ⟨v', h3, h4⟩ := partA_R (w := w) hn (cs := l'.toArray) (by simpa using hl) h1 hp
    refine .pure hH h3 ?_
    have hlt' : (Int.ofNat q) < (len : Int) := Int.ofNat_lt.2 hlt
    have h0 : 0 ≤ (Int.ofNat q) := Int.natCast_nonneg q
    simp only [execOp, ho, Sem.run_bind, Instr.index, asIntOf, hiv, hv, run_underlying hu, Sem.run_pure, Result.andThen_ok, h0, hlt', and_self, if_true, sizeOf, typeInfo, run_program, hj]
    have : (Int.ofNat q).toNat = q := rfl
    rw [this, h4]; rfl
theorem bstr_get (l : List Nat) (k : Nat) : (bstr l)[k]? = (l[k]?).map UInt8.ofNat := by
  have : (bstr l)[k]? = (bstr l).data[k]? := by
    by_cases h : k < (bstr l).size
    · rw [getElem?_pos (bstr l) k h]
      have h' : k < (bstr l).data.size := h
      rw [getElem?_pos (bstr l).data k h']; rfl
    · rw [getElem?_neg (bstr l) k h]
      have h' : ¬ k < (bstr l).data.size := h
      rw [getElem?_neg (bstr l).data k h']
  rw [this]
  simp [bstr]
theorem s_idxS (hT : TR φ N τ a) (hH : HR φ σ w) {t : TypeId} {x i : Operand} {x' i' : AX} (ho : o.op = .index t x i) (hu : P.underlying t = some .string) (hx : axOf x = some x') (hi : axOf i = some i') :
    SR m φ σ w (hIdxS x' i' base τ σ) ((execOp a.eval o).run P w) := by
  have h := evR hT hx
  have h2 := evR hT hi
  unfold hIdxS
  generalize ev τ x' = q at h
  generalize hv : a.eval x = v at h
  cases h <;> try exact trivial
  rename_i l hl
  change SR m φ σ w ((ev τ i').asInt .no _) _
  generalize ev τ i' = q at h2
  generalize hiv : a.eval i = vi at h2
  cases h2 <;> try exact trivial
  rename_i kd n
  cases n with
  | negSucc n => exact trivial
  | ofNat n =>
    change SR m φ σ w (Option.rec (motive := fun _ => OR) .no (fun c => .ok (.int .u8 (.ofNat c)) σ) (nth8 l n)) _
    rw [nth8_eq]
    cases hk : l[n]? with
    | none => exact trivial
    | some c =>
      refine .pure hH (.int _ _) ?_
      have hc : c < 256 := hl c (List.mem_of_getElem? hk)
      have h0 : 0 ≤ (Int.ofNat n) := Int.natCast_nonneg n
      have hg : (bstr l)[(Int.ofNat n).toNat]? = some (UInt8.ofNat c) := by
        show (bstr l)[n]? = _
        rw [bstr_get, hk]; rfl
      simp only [execOp, ho, Sem.run_bind, Instr.index, asIntOf, hiv, hv, run_underlying hu, Sem.run_pure, Result.andThen_ok, h0, if_true, hg]
      simp
      omega
theorem s_lenK (_ : TR φ N τ a) (hH : HR φ σ w) {t : TypeId} {n : Nat} {x : Operand} {ax : AX} {b : Builtin} (hb : b = .len ∨ b = .cap) (ho : o.op = .call { callee := .builtin b, args := #[x], argTypes := #[t] })
    (hu : (∃ e, P.underlying t = some (.array n e)) ∨ (b = .len ∧ ∃ e' e, P.underlying t = some (.pointer e') ∧ P.underlying e' = some (.array n e))) :
    SR m φ σ w (hLenK n ax base τ σ) ((execOp a.eval o).run P w) := by
  refine .pure hH (.int .i64 _) ?_
  rcases hb with rfl | rfl
  · rcases hu with ⟨e, hu⟩ | ⟨_, e', e, hu, hu'⟩
    · simp [execOp, ho, resolve, invoke, builtin, Builtin.len_, run_underlying hu, goInt]
    · simp [execOp, ho, resolve, invoke, builtin, Builtin.len_, run_underlying hu, run_underlying hu', goInt]
  · rcases hu with ⟨e, hu⟩ | ⟨h, _⟩
    · simp [execOp, ho, resolve, invoke, builtin, Builtin.cap_, run_underlying hu, goInt]
    · cases h
end
end Go.Dk
namespace Go.Dk
open Go
variable [Keep]
section
variable {P : Program} {m : Id → Prop} {N : Nat} {φ : Emb} {σ : H} {w : World} {τ : Fr} {a : Act} {o : Oper} {base : Id}

theorem s_len (hT : TR φ N τ a) (hH : HR φ σ w) {t : TypeId} {k : LK} {x : Operand} {x' : AX} (ho : o.op = .call { callee := .builtin .len, args := #[x], argTypes := #[t] }) (hx : axOf x = some x')
    (hu : match k with | .str => P.underlying t = some .string | .sli => (∃ e, P.underlying t = some (.slice e)) | .map => ∃ k e, P.underlying t = some (.map k e)) :
    SR m φ σ w (hLen k x' base τ σ) ((execOp a.eval o).run P w) := by
  have h := evR hT hx
  have key : ∀ n, (Builtin.len_ #[t] o.type #[a.eval x]).run P w = .ok (goInt n) w → (execOp a.eval o).run P w = .ok (.value (goInt n)) w := fun n hn => by
    simp [execOp, ho, resolve, invoke, builtin, hn]
  unfold hLen
  generalize ev τ x' = q at h
  generalize hv : a.eval x = v at h key
  cases k with
  | str =>
    have hu : P.underlying t = some .string := hu
    cases h <;> try exact trivial
    rename_i l hl
    exact .pure hH (.int .i64 _) (key _ (by simp [Builtin.len_, run_underlying hu, bstr_size, len8_eq, goInt]))
  | sli =>
    obtain ⟨e, hu⟩ := hu
    cases h <;> try exact trivial
    · exact .pure hH (.int .i64 _) (key _ (by simp [Builtin.len_, run_underlying hu, goInt]))
    · exact .pure hH (.int .i64 _) (key _ (by simp [Builtin.len_, run_underlying hu, goInt]))
    · exact .pure hH (.int .i64 0) (key 0 (by simp [Builtin.len_, run_underlying hu, goInt]))
  | map =>
    obtain ⟨k, e, hu⟩ := hu
    cases h <;> try exact trivial
    · rename_i b c z hb
      change SR m φ σ w (match σ.blk b with | some (.map _ l) => .ok (goI (len8 l)) σ | _ => .no) _
      split
      · rename_i ps l hl
        obtain ⟨c', z', h1, h2⟩ := hH.blk b _ hl
        rw [hb] at h1; cases h1
        obtain ⟨es, clock, l', h3, h4, h5, _⟩ := h2
        have hlen : es.size = l.length := by
          have := h5.length
          simp at this
          rw [this, h4.length_eq]
        refine .pure hH (.int .i64 _) (key _ ?_)
        have hg : (getObj c).run P w = .ok (.map es clock) w := by simp [getObj, Sem.run, h3]
        simp [Builtin.len_, run_underlying hu, hg, hlen, len8_eq, goInt]
      · exact trivial
    · exact .pure hH (.int .i64 0) (key 0 (by simp [Builtin.len_, run_underlying hu, goInt]))
theorem s_capS (hT : TR φ N τ a) (hH : HR φ σ w) {t e : TypeId} {x : Operand} {x' : AX} (ho : o.op = .call { callee := .builtin .cap, args := #[x], argTypes := #[t] }) (hx : axOf x = some x') (hu : P.underlying t = some (.slice e)) :
    SR m φ σ w (hCapS x' base τ σ) ((execOp a.eval o).run P w) := by
  have h := evR hT hx
  unfold hCapS
  generalize ev τ x' = q at h
  generalize hv : a.eval x = v at h
  cases h <;> try exact trivial
  · exact .pure hH (.int .i64 _) (by simp [execOp, ho, hv, resolve, invoke, builtin, Builtin.cap_, run_underlying hu, goInt])
  · exact .pure hH (.int .i64 0) (by simp [execOp, ho, hv, resolve, invoke, builtin, Builtin.cap_, run_underlying hu, goInt])

/-! Rows of cells -/
/-- Cells read. -/
theorem row_take (hH : HR φ σ w) {b : Id} {t : T AV} {n k off c z : Nat} {l : List AV} (hb : σ.blk b = some (.cells t n)) (hφ : φ b = some (c, z)) (h : t.take k off = some l) :
    ∃ vs, (loadCells ⟨c, off, none⟩ k).run P w = .ok vs.toArray w ∧ VRs φ l vs ∧ (∀ x ∈ l, x.one = true) ∧ vs.length = k ∧ ∀ j v, vs[j]? = some v → w.cell? ((⟨c, off, none⟩ : Addr).add j) = some v := by
  obtain ⟨hl, hg⟩ := T.take_eq t k off l h
  obtain ⟨c', z', h1, h2⟩ := hH.blk b _ hb
  rw [hφ] at h1; cases h1
  obtain ⟨cur, e, h3, h4, h5, h6⟩ := h2
  have cell : ∀ j x, l[j]? = some x → x.one = true ∧ ∃ v, cur[off + j]? = some v ∧ VR φ x v := fun j x hx => by
    have hj : j < k := by rw [← hl]; exact (List.getElem?_eq_some_iff.1 hx).1
    obtain ⟨_, h7, v, h8, h9⟩ := h6 (off + j) x (by rw [hg j hj, hx])
    exact ⟨h7, v, h8, h9⟩
  have hlen : ((cur.toList.drop off).take k).length = k := by
    cases k with
    | zero => simp
    | succ k =>
      have hx : l[k]? = some l[k] := List.getElem?_eq_getElem (by omega)
      obtain ⟨_, v, h8, _⟩ := cell k _ hx
      have := (Array.getElem?_eq_some_iff.1 h8).1
      simp; omega
  have hc : ∀ j v, ((cur.toList.drop off).take k)[j]? = some v → w.cell? ((⟨c, off, none⟩ : Addr).add j) = some v := fun j v hv => by
    rw [add_eq]
    have hj : j < k := by rw [← hlen]; exact (List.getElem?_eq_some_iff.1 hv).1
    have : cur[off + j]? = some v := by simpa [List.getElem?_take, hj, List.getElem?_drop] using hv
    simp [World.cell?, h3, this]
  refine ⟨_, ?_, .of_get (hlen.trans hl.symm) fun j x hx => ?_, fun x hx => ?_, hlen, hc⟩
  · have := run_loadCells_list (P := P) w ⟨c, off, none⟩ ((cur.toList.drop off).take k) hc
    rwa [hlen] at this
  · obtain ⟨_, v, h8, h9⟩ := cell j x hx
    have hj : j < k := by rw [← hl]; exact (List.getElem?_eq_some_iff.1 hx).1
    exact ⟨v, by simpa [List.getElem?_take, hj, List.getElem?_drop] using h8, h9⟩
  · obtain ⟨j, hj, rfl⟩ := List.mem_iff_getElem.1 hx
    exact (cell j _ (List.getElem?_eq_getElem hj)).1
/-- Cells written. -/
theorem row_over (hH : HR φ σ w) {b : Id} {t t' : T AV} {n off c z : Nat} {l : List AV} {vs : List Value} (hb : σ.blk b = some (.cells t n)) (hφ : φ b = some (c, z)) (h : T.over l off t = some t') (hl : VRs φ l vs) (h1 : ∀ x ∈ l, x.one = true) :
    ∃ w', (storeCells ⟨c, off, none⟩ vs).run P w = .ok () w' ∧ HR φ (σ.put b (some (.cells t' n))) w' ∧ Fm m φ σ w φ (σ.put b (some (.cells t' n))) w' := by
  obtain ⟨rfl, hs⟩ := T.over_eq l off t t' h
  obtain ⟨c', z', h2, h3⟩ := hH.blk b _ hb
  rw [hφ] at h2; cases h2
  obtain ⟨cur, e, h4, h5, h6, h7⟩ := h3
  have hlen := hl.length
  by_cases hne : l = []
  · subst hne
    cases hl
    exact ⟨w, rfl, HR.put hH hb hφ (fun _ _ => rfl) rfl rfl rfl rfl ⟨cur, e, h4, h5, h6, h7⟩⟩
  · have hpos : 0 < l.length := by cases l; exact absurd rfl hne; simp
    have hfit : off + 0 + vs.length ≤ cur.size := by
      have hx := hs (l.length - 1) (by omega)
      obtain ⟨x, hx⟩ := Option.isSome_iff_exists.1 hx
      obtain ⟨h8, _⟩ := h7 _ x hx
      omega
    have hv1 : ∀ v ∈ vs, v.oneCell' = true := fun v hv => by
      obtain ⟨j, hj, rfl⟩ := List.mem_iff_getElem.1 hv
      obtain ⟨u, h8, h9⟩ := hl.get j l[j] (List.getElem?_eq_getElem (by omega))
      rw [List.getElem?_eq_getElem hj] at h8; cases h8
      exact h9.one_cell (h1 _ (List.getElem_mem _))
    have hst := run_storeCells_at P c off e vs 0 cur w h4 hfit hv1
    simp only [Nat.add_zero] at hst
    refine ⟨_, hst, HR.put hH hb hφ (fun k hk => setRow_other w c k _ hk) (size_setRow w c _) rfl rfl rfl ⟨_, e, setRow_heap w c cur _ e _ h4, ?_, h6, fun k x hx => ?_⟩⟩
    · simp; omega
    · rw [T.lay_get] at hx
      by_cases hin : off ≤ k ∧ k < off + l.length
      · rw [if_pos hin] at hx
        have hmem : x ∈ l := List.mem_of_getElem? hx
        obtain ⟨u, h8, h9⟩ := hl.get (k - off) x hx
        have hk : k < n := by
          have hx := hs (k - off) (by omega)
          obtain ⟨y, hy⟩ := Option.isSome_iff_exists.1 hx
          rw [show off + (k - off) = k by omega] at hy
          exact (h7 _ y hy).1
        refine ⟨hk, h1 x hmem, u, ?_, h9⟩
        rw [List.getElem?_toArray, List.append_assoc, List.getElem?_append_right (by simp; omega), List.getElem?_append_left (by simp; omega)]
        have : k - (cur.toList.take off).length = k - off := by simp; omega
        rw [this, h8]
      · rw [if_neg hin] at hx
        obtain ⟨h8, h9, v, h10, h11⟩ := h7 k x hx
        refine ⟨h8, h9, v, ?_, h11⟩
        rw [List.getElem?_toArray]
        by_cases hlt : k < off
        · rw [List.append_assoc, List.getElem?_append_left (by simp; omega)]
          simp [hlt, h10]
        · rw [List.getElem?_append_right (by simp; omega), List.getElem?_drop]
          have : off + vs.length + (k - (cur.toList.take off ++ vs).length) = k := by simp; omega
          rw [this]; simpa using h10
/-- A new row. -/
theorem new_row (hH : HR φ σ w) {σ' : H} {b : Id} {l : List AV} {vs : List Value} (e : TypeId) (hb : φ b = none) (hm : m b) (hn : σ.n.num ≤ σ'.n.num) (hlt : b.num < σ'.n.num)
    (hσ : ∀ i, σ'.blk i = if b = i then some (cellsB l) else σ.blk i) (hl : VRs φ l vs) (h1 : ∀ x ∈ l, x.one = true) (w' : World) (hw : w'.heap = w.heap.push (.cells vs.toArray e)) (hos : w'.os = w.os) (htape : w'.tape = w.tape) (hout : w'.output = w.output) :
    HR (upd φ b (w.heap.size, vs.length)) σ' w' ∧ Fm m φ σ w (upd φ b (w.heap.size, vs.length)) σ' w' := by
  have := HR.add (m := m) (hkp := fun h => absurd h (Nat.lt_irrefl _)) (σ' := σ') (w' := w') hH b (cellsB l) w.heap.size vs.length hb hm hn hlt hσ
    (fun i y z hi hc => by
      obtain ⟨c', z', h1, h2⟩ := hH.blk i y hi
      rw [hc] at h1; cases h1
      have := h2.lt
      omega)
    (fun k hk _ => by rw [hw, Array.getElem?_push, if_neg (by omega)]) (by rw [hw]; simp) hos htape hout
    ⟨vs.toArray, e, by rw [hw]; simp, by simp, by rw [len8_eq]; exact Nat.le_of_eq hl.length.symm, fun k x hx => by
      rw [T.lay_get] at hx
      by_cases hin : 0 ≤ k ∧ k < 0 + l.length
      · rw [if_pos hin] at hx
        rw [Nat.sub_zero] at hx
        obtain ⟨u, h8, h9⟩ := hl.get k x hx
        exact ⟨by rw [len8_eq]; omega, h1 x (List.mem_of_getElem? hx), u, by simpa using h8, h9.mono (Sub.upd _ hb)⟩
      · rw [if_neg hin] at hx; cases hx⟩
  exact ⟨this.1, this.2 (Nat.le_refl _)⟩
/-- What is known of a number that is kept. -/
def RsvOk (m : Id → Prop) (φ : Emb) (σ : H) (base : Id) (rsv : Option Nat) : Prop :=
  m σ.n ∧ ∀ j, rsv = some j → ∀ b, base.plus j = some b → φ b = none ∧ b.num < σ.n.num ∧ m b
/-- A new block, of its own number or of the kept one. -/
theorem newB_R {rsv : Option Nat} (hH : HR φ σ w) (hr : RsvOk m φ σ base rsv) {l : List AV} {vs : List Value} (e : TypeId) {k : Id → AV} (hl : VRs φ l vs) (h1 : ∀ x ∈ l, x.one = true)
    {v : Value} (hk : ∀ φ' b, φ' b = some (w.heap.size, vs.length) → VR φ' (k b) v) {res : Result Next}
    (w' : World) (hw : w'.heap = w.heap.push (.cells vs.toArray e)) (hos : w'.os = w.os) (htape : w'.tape = w.tape) (hout : w'.output = w.output)
    (hres : res = .ok (.value v) w') : SR m φ σ w (newB rsv base (cellsB l) k σ) res := by
  cases rsv with
  | none =>
    refine .no_or fun hne => ?_
    change σ.new OR.no (fun b σ => OR.ok (k b) σ) (cellsB l) ≠ .no at hne
    change SR m φ σ w (σ.new OR.no (fun b σ => OR.ok (k b) σ) (cellsB l)) res
    obtain ⟨n', hn', he⟩ := H.new_eq (r := σ.new OR.no (fun b σ => OR.ok (k b) σ) (cellsB l)) rfl hne
    rw [← he]
    have hnum := Id.succ_num hn'
    obtain ⟨h2, h3⟩ := new_row (m := m) (σ' := ⟨n', set5 σ.n (some (cellsB l)) σ.m⟩) (b := σ.n) hH e (hH.fresh _ (Nat.le_refl _)) hr.1 (by show σ.n.num ≤ n'.num; omega) (by show σ.n.num < n'.num; omega) (fun i => H.blk_new σ n' _ i) hl h1 w' hw hos htape hout
    exact ⟨_, _, _, .inl hres, hk _ _ (upd_same _ _ _), h2, h3⟩
  | some j =>
    change SR m φ σ w (Option.rec (motive := fun _ => OR) .no (fun b => .ok (k b) (σ.put b (some (cellsB l)))) (base.plus j)) res
    cases hb : base.plus j with
    | none => exact trivial
    | some b =>
      obtain ⟨h4, h5, h6⟩ := hr.2 j rfl b hb
      have hnum := Id.plus_num hb
      obtain ⟨h2, h3⟩ := new_row (m := m) (σ' := σ.put b (some (cellsB l))) (b := b) hH e h4 h6 (Nat.le_refl _) h5 (fun i => H.blk_put σ b i _) hl h1 w' hw hos htape hout
      exact ⟨_, _, _, .inl hres, hk _ _ (upd_same _ _ _), h2, h3⟩
theorem s_box (hT : TR φ N τ a) (hH : HR φ σ w) {rsv : Option Nat} (hr : RsvOk m φ σ base rsv) {e : TypeId} {x : Operand} {x' : AX} (ho : o.op = .box e x) (hx : axOf x = some x') :
    SR m φ σ w (hBox rsv x' base τ σ) ((execOp a.eval o).run P w) := by
  have h := evR hT hx
  refine .no_or fun hne => ?_
  obtain ⟨l, hl, h2, h3⟩ := h.cells (no := OR.no) (k := fun l => newB rsv base (cellsB l) (fun b => .ptr b 0) σ) rfl hne
  unfold hBox
  rw [← hl]
  refine newB_R hH hr e h2 h3 (fun φ' b hb => .ptr b 0 _ _ hb) (w.alloc (.cells (a.eval x).cells e)) (by show w.heap.push _ = _; simp) rfl rfl rfl ?_
  simp [execOp, ho, Instr.box, newVar, newRow]
theorem s_alloc (hH : HR φ σ w) {rsv : Option Nat} (hr : RsvOk m φ σ base rsv) {e : TypeId} {i : TypeInfo} {z : Value} {z' : AV} (ho : o.op = .alloc e) (hi : P.info? e = some i) (hz : i.zero = some z) (hz' : zeroOf z = some z') :
    SR m φ σ w (hBox rsv (.c z') base τ σ) ((execOp a.eval o).run P w) := by
  have h : VR φ z' z := zeroOf_R hz' φ
  refine .no_or fun hne => ?_
  obtain ⟨l, hl, h2, h3⟩ := h.cells (no := OR.no) (k := fun l => newB rsv base (cellsB l) (fun b => .ptr b 0) σ) rfl hne
  change SR m φ σ w (z'.asCells .no fun l => newB rsv base (cellsB l) (fun b => .ptr b 0) σ) _
  rw [← hl]
  refine newB_R hH hr e h2 h3 (fun φ' b hb => .ptr b 0 _ _ hb) (w.alloc (.cells z.cells e)) (by show w.heap.push _ = _; simp) rfl rfl rfl ?_
  simp [execOp, ho, Instr.alloc, zeroValue, typeInfo, hi, hz, newVar, newRow]
theorem s_load (hT : TR φ N τ a) (hH : HR φ σ w) {t : TypeId} {n : Option Nat} {x : Operand} {x' : AX} (ho : o.op = .load t x) (hn : aggN P t = some n) (hx : axOf x = some x') :
    SR m φ σ w (hLoad n x' base τ σ) ((execOp a.eval o).run P w) := by
  have h := evR hT hx
  obtain ⟨d, hu, ha, hnn⟩ := aggN_R hn
  refine .no_or fun hne => ?_
  unfold hLoad at hne ⊢
  generalize ev τ x' = q at h hne
  generalize hv : a.eval x = v at h
  cases h <;> try exact absurd rfl hne
  rename_i b off c z hb
  obtain ⟨t', k, hblk, hr⟩ := H.row_eq (no := OR.no) (b := b) (σ := σ) (k := fun c _ => Option.rec (motive := fun _ => OR) (ok? σ (c.get off)) (fun n => Option.rec (motive := fun _ => OR) .no (fun l => .ok (.agg l) σ) (c.take n off)) n) rfl hne
  change SR m φ σ w (σ.row OR.no _ b) _
  rw [← hr]
  cases n with
  | none =>
    change SR m φ σ w (ok? σ (t'.get off)) _
    cases hg : t'.get off with
    | none => exact trivial
    | some y =>
      obtain ⟨_, u, h2, h3⟩ := hH.cell hblk hg hb
      exact .pure hH h3 (by simp [execOp, ho, hv, Instr.loadAt, Instr.sureAddr, loadVar, ha w, h2])
  | some n =>
    change SR m φ σ w (Option.rec (motive := fun _ => OR) .no (fun l => .ok (.agg l) σ) (t'.take n off)) _
    cases hg : t'.take n off with
    | none => exact trivial
    | some l =>
      obtain ⟨vs, h2, h3, h4, _⟩ := row_take (P := P) hH hblk hb hg
      obtain ⟨i, hi, hs⟩ := hnn n rfl
      exact .pure hH (.agg _ _ h3 h4) (by simp [execOp, ho, hv, Instr.loadAt, Instr.sureAddr, loadVar, ha w, sizeOf, typeInfo, hi, hs, h2])
theorem s_store (hT : TR φ N τ a) (hH : HR φ σ w) {t : TypeId} {i : TypeInfo} {p x : Operand} {p' x' : AX} (ho : o.op = .store t p x) (hi : P.info? t = some i) (hp : axOf p = some p') (hx : axOf x = some x') :
    SR m φ σ w (hStore i.size p' x' base τ σ) ((execOp a.eval o).run P w) := by
  have h := evR hT hp
  have h2 := evR hT hx
  refine .no_or fun hne => ?_
  unfold hStore at hne ⊢
  generalize ev τ p' = q at h hne
  generalize hv : a.eval p = v at h
  cases h <;> try exact absurd rfl hne
  rename_i b off c z hb
  change (ev τ x').asCells .no (fun l => ite8 (Nat.beq (len8 l) i.size) (σ.row .no (fun c m => Option.rec (motive := fun _ => OR) .no (fun c' => .ok uv (σ.put b (some (.cells c' m)))) (T.over l off c)) b) .no) ≠ .no at hne
  change SR m φ σ w ((ev τ x').asCells .no (fun l => ite8 (Nat.beq (len8 l) i.size) (σ.row .no (fun c m => Option.rec (motive := fun _ => OR) .no (fun c' => .ok uv (σ.put b (some (.cells c' m)))) (T.over l off c)) b) .no)) _
  obtain ⟨l, hl, h3, h4⟩ := h2.cells (no := OR.no) rfl hne
  rw [← hl] at hne ⊢
  cases hs : Nat.beq (len8 l) i.size with
  | false => exact absurd (by rw [hs]) hne
  | true =>
  rw [hs] at hne
  change σ.row OR.no _ b ≠ .no at hne
  change SR m φ σ w (σ.row OR.no _ b) _
  obtain ⟨t', k, hblk, hr⟩ := H.row_eq (no := OR.no) (b := b) (σ := σ) (k := fun c m => Option.rec (motive := fun _ => OR) .no (fun c' => .ok uv (σ.put b (some (.cells c' m)))) (T.over l off c)) rfl hne
  rw [← hr]
  cases hg : T.over l off t' with
  | none => exact trivial
  | some t2 =>
    obtain ⟨w', h5, h6, h7⟩ := row_over (P := P) (m := m) hH hblk hb hg h3 h4
    refine ⟨φ, undef, w', .inr ⟨?_, rfl⟩, uvR φ, h6, h7⟩
    have hsz : (a.eval x).cells.size = i.size := by
      have := h3.length
      have h8 := Nat.eq_of_beq_eq_true hs
      rw [len8_eq] at h8
      simp at this
      omega
    simp [execOp, ho, hv, Instr.storeAt, Instr.sureAddr, storeVar, sizeOf, typeInfo, hi, hsz, h5]
end
end Go.Dk
namespace Go.Dk
open Go
variable [Keep]
section
variable {P : Program} {m : Id → Prop} {N : Nat} {φ : Emb} {σ : H} {w : World} {τ : Fr} {a : Act} {o : Oper} {base : Id}

/-! Built -/
theorem foldl_set (vs : List Value) : ∀ (k off : Nat) (cs : Array Value), off + k + vs.length ≤ cs.size →
    ((vs.zipIdx k).foldl (fun cs (c, j) => cs.setIfInBounds (off + j) c) cs).toList = cs.toList.take (off + k) ++ vs ++ cs.toList.drop (off + k + vs.length) := by
  induction vs with
  | nil => intro k off cs _; simp
  | cons v vs ih =>
    intro k off cs h
    simp only [List.length_cons] at h
    rw [List.zipIdx_cons, List.foldl_cons, ih (k + 1) off _ (by simp; omega)]
    have := list_seg_step cs.toList (off + k) v vs (by simp; omega)
    simp only [Array.toList_setIfInBounds, List.length_cons]
    rw [← this]
    rfl
theorem fill_R (hT : TR φ N τ a) {place place' : Nat → Option (Nat × Nat)} (hp : ∀ i q, place i = some q → place' i = some q) : ∀ {ps : List (Nat × Operand)} {ps' : List (Nat × Nat × AX)} {z z' : List AV} {cells : Array Value},
    partsOf place ps = some ps' → fillP τ ps' z = some z' → VRs φ z cells.toList → (∀ x ∈ z, x.one = true) →
    ∃ cells', Instr.fill place' cells (ps.map fun p => (p.1, a.eval p.2)) = some cells' ∧ VRs φ z' cells'.toList ∧ ∀ x ∈ z', x.one = true := by
  intro ps
  induction ps with
  | nil =>
    intro ps' z z' cells h1 h2 h3 h4
    cases h1
    cases h2
    exact ⟨cells, rfl, h3, h4⟩
  | cons p ps ih =>
    obtain ⟨i, x⟩ := p
    intro ps' z z' cells h1 h2 h3 h4
    unfold partsOf at h1
    split at h1
    · rename_i off n ax r e1 e2 e3
      cases h1
      change (ev τ ax).asCells none (fun l => ite8 (Nat.beq (len8 l) n) (Option.rec (motive := fun _ => Option (List AV)) none (fun z => fillP τ r z) (lay8 l off z)) none) = some z' at h2
      have hne : (ev τ ax).asCells none (fun l => ite8 (Nat.beq (len8 l) n) (Option.rec (motive := fun _ => Option (List AV)) none (fun z => fillP τ r z) (lay8 l off z)) none) ≠ none := by rw [h2]; simp
      obtain ⟨l, hl, h5, h6⟩ := (evR hT e2).cells (no := none) rfl hne
      rw [← hl] at h2
      cases hb : Nat.beq (len8 l) n with
      | false => rw [hb] at h2; cases h2
      | true =>
      rw [hb] at h2
      change Option.rec (motive := fun _ => Option (List AV)) none (fun z => fillP τ r z) (lay8 l off z) = some z' at h2
      cases hq : lay8 l off z with
      | none => rw [hq] at h2; cases h2
      | some z2 =>
      rw [hq] at h2
      obtain ⟨h7, rfl⟩ := lay8_eq l off z z2 hq
      have hbn := Nat.eq_of_beq_eq_true hb
      rw [len8_eq] at hbn
      have hlen := h5.length
      have hclen := h3.length
      simp only [Array.length_toList] at hlen hclen
      have c1 : ¬ ((a.eval x).cells.size ≠ n) := by omega
      have c2 : ¬ (off + (a.eval x).cells.size > cells.size) := by omega
      have hf := foldl_set (a.eval x).cells.toList 0 off cells (by simp; omega)
      have hz : (a.eval x).cells.zipIdx.foldl (fun cs (p : Value × Nat) => cs.setIfInBounds (off + p.2) p.1) cells = ((a.eval x).cells.toList.zipIdx).foldl (fun cs (p : Value × Nat) => cs.setIfInBounds (off + p.2) p.1) cells := by
        rw [← Array.foldl_toList]
        simp
      obtain ⟨cells', h8, h9, h10⟩ := ih (cells := (a.eval x).cells.zipIdx.foldl (fun cs (p : Value × Nat) => cs.setIfInBounds (off + p.2) p.1) cells) e3 h2 (by
        rw [hz]
        have hf' : (((a.eval x).cells.toList.zipIdx 0).foldl (fun cs (p : Value × Nat) => cs.setIfInBounds (off + p.2) p.1) cells).toList = _ := hf
        rw [hf']
        simp only [Nat.add_zero]
        refine ((h3.take off).append h5).append ?_
        rw [show off + (a.eval x).cells.toList.length = off + l.length by simp; omega]
        exact h3.drop _) (fun y hy => by
          rcases List.mem_append.1 hy with hy | hy
          · rcases List.mem_append.1 hy with hy | hy
            · exact h4 y (List.mem_of_mem_take hy)
            · exact h6 y hy
          · exact h4 y (List.mem_of_mem_drop hy))
      refine ⟨cells', ?_, h9, h10⟩
      rw [List.map_cons, Instr.fill, hp i _ e1]
      simp only []
      rw [if_neg (by simp only [Bool.or_eq_true, decide_eq_true_eq, not_or]; exact ⟨c1, c2⟩)]
      exact h8
    · cases h1
theorem zc_ones {z : Value} {l : List AV} (h : zcOf z = some l) (hz : z.oneCell = true ∨ ∃ cs, z = .agg cs) : ∀ x ∈ l, x.one = true := (zcOf_R h (fun _ => none)).2 hz
theorem mapM_places {fs : List Field} (h : ∀ f ∈ fs, (P.info? f.type).isSome = true) : ∃ places, fs.mapM (fun f => (P.info? f.type).map fun i => (f.offset, i.size)) = some places ∧
    ∀ (k : Nat) (f : Field) (j : TypeInfo), fs[k]? = some f → P.info? f.type = some j → places[k]? = some (f.offset, j.size) := by
  induction fs with
  | nil => exact ⟨[], rfl, fun k f j hk => by simp at hk⟩
  | cons f fs ih =>
    obtain ⟨places, h1, h2⟩ := ih fun g hg => h g (by simp [hg])
    obtain ⟨i, hi⟩ := Option.isSome_iff_exists.1 (h f (by simp))
    refine ⟨(f.offset, i.size) :: places, by rw [List.mapM_cons, hi, h1]; rfl, fun k g j hk hj => ?_⟩
    cases k with
    | zero => simp at hk; subst hk; rw [hi] at hj; cases hj; rfl
    | succ k => simp at hk; simpa using h2 k g j hk hj
theorem s_build_struct (hT : TR φ N τ a) (hH : HR φ σ w) {t : TypeId} {fs : Array Field} {ps : Array (Nat × Operand)} {ps' : List (Nat × Nat × AX)} {i : TypeInfo} {z : Value} {z' : List AV} (ho : o.op = .build t ps) (hi : P.info? t = some i) (hu : P.underlying t = some (.struct fs)) (hz : i.zero = some z) (hz' : zcOf z = some z')
    (hzo : z.oneCell = true ∨ ∃ cs, z = .agg cs) (hps : partsOf (structPlace P fs) ps.toList = some ps') (hall : allSizes P fs = true) :
    SR m φ σ w (hBuild z' ps' base τ σ) ((execOp a.eval o).run P w) := by
  unfold hBuild
  cases hf : fillP τ ps' z' with
  | none => exact trivial
  | some r =>
    obtain ⟨places, h1, h2⟩ := mapM_places (P := P) (fs := fs.toList) (fun f hf => by have := hall; unfold allSizes at this; exact List.all_eq_true.1 this f hf)
    obtain ⟨cells, h3, h4, h5⟩ := fill_R (place' := fun k => places.toArray[k]?) hT (fun k q hq => by
      unfold structPlace at hq
      split at hq
      · rename_i f hf
        split at hq
        · rename_i j hj; cases hq; simpa using h2 k f j (by simpa using hf) hj
        · cases hq
      · cases hq) hps hf (zcOf_R hz' φ).1 (zc_ones hz' hzo)
    have hb : P.built t (ps.toList.map fun p => (p.1, a.eval p.2)) = some cells := by simp only [Program.built, hi, hu, hz, h1]; exact h3
    have := run_build w t (ps.map fun p => (p.1, a.eval p.2)) cells (by simpa using hb)
    have e : cells = cells.toList.toArray := by simp
    refine .pure hH (v' := .agg cells) (e ▸ VR.agg r cells.toList h4 h5) ?_
    simp only [execOp, ho, Sem.run_bind, this, Result.andThen_ok, Sem.run_pure]
theorem s_build_array (hT : TR φ N τ a) (hH : HR φ σ w) {t e : TypeId} {n : Nat} {ps : Array (Nat × Operand)} {ps' : List (Nat × Nat × AX)} {i j : TypeInfo} {z : Value} {z' : List AV} (ho : o.op = .build t ps) (hi : P.info? t = some i) (hu : P.underlying t = some (.array n e)) (hj : P.info? e = some j) (hz : i.zero = some z) (hz' : zcOf z = some z')
    (hzo : z.oneCell = true ∨ ∃ cs, z = .agg cs) (hps : partsOf (fun i => some (i * j.size, j.size)) ps.toList = some ps') :
    SR m φ σ w (hBuild z' ps' base τ σ) ((execOp a.eval o).run P w) := by
  unfold hBuild
  cases hf : fillP τ ps' z' with
  | none => exact trivial
  | some r =>
    obtain ⟨cells, h3, h4, h5⟩ := fill_R (place' := fun i => some (i * j.size, j.size)) hT (fun k q hq => hq) hps hf (zcOf_R hz' φ).1 (zc_ones hz' hzo)
    have hb : P.built t (ps.toList.map fun p => (p.1, a.eval p.2)) = some cells := by simp only [Program.built, hi, hu, hj, hz]; exact h3
    have := run_build w t (ps.map fun p => (p.1, a.eval p.2)) cells (by simpa using hb)
    have e : cells = cells.toList.toArray := by simp
    refine .pure hH (v' := .agg cells) (e ▸ VR.agg r cells.toList h4 h5) ?_
    simp only [execOp, ho, Sem.run_bind, this, Result.andThen_ok, Sem.run_pure]
theorem repL_get (z : List AV) : ∀ (n k : Nat), k < n * z.length → (repL z n)[k]? = z[k % z.length]? := by
  intro n
  induction n with
  | zero => intro k h; omega
  | succ n ih =>
    intro k h
    rw [repL]
    by_cases hk : k < z.length
    · rw [List.getElem?_append_left hk, Nat.mod_eq_of_lt hk]
    · rw [List.getElem?_append_right (by omega), ih _ (by rw [Nat.succ_mul] at h; omega)]
      congr 1
      have : k = (k - z.length) + z.length := by omega
      conv => rhs; rw [this, Nat.add_mod_right]
theorem repL_len (z : List AV) (n : Nat) : (repL z n).length = n * z.length := by
  induction n with
  | zero => simp [repL]
  | succ n ih => simp [repL, ih, Nat.succ_mul]; omega
theorem mem_repL {z : List AV} {x : AV} : ∀ {n : Nat}, x ∈ repL z n → x ∈ z := by
  intro n
  induction n with
  | zero => intro h; simp [repL] at h
  | succ n ih => intro h; rw [repL] at h; rcases List.mem_append.1 h with h | h; exact h; exact ih h
theorem made_R {z : List AV} {zs : Array Value} (h : VRs φ z zs.toList) (n : Nat) : VRs φ (repL z n) (madeCells zs (n * z.length)).toList := by
  have hl := h.length
  simp only [Array.length_toList] at hl
  refine .of_get (by rw [repL_len]; simp [madeCells]) fun k x hx => ?_
  have hk : k < n * z.length := by rw [← repL_len]; exact (List.getElem?_eq_some_iff.1 hx).1
  rw [repL_get z n k hk] at hx
  obtain ⟨v, h1, h2⟩ := h.get _ x hx
  refine ⟨v, ?_, h2⟩
  have hpos : 0 < z.length := by rcases Nat.eq_zero_or_pos z.length with h0 | h0; rw [h0] at hk; omega; exact h0
  have h3 : zs[k % zs.size]? = some v := by rw [hl]; simpa using h1
  simp only [madeCells, Array.toList_map, List.getElem?_map, Array.toList_range]
  rw [List.getElem?_range hk]
  simp only [Option.map_some]
  rw [Array.getElem!_eq_getD, Array.getD_eq_getD_getElem?, h3]
  rfl
theorem s_buildS (hT : TR φ N τ a) (hH : HR φ σ w) {rsv : Option Nat} (hr : RsvOk m φ σ base rsv) {t e : TypeId} {len : Nat} {ps : Array (Nat × Operand)} {ps' : List (Nat × Nat × AX)} {j : TypeInfo} {z : Value} {z' : List AV} (ho : o.op = .buildSlice t len ps) (hu : P.underlying t = some (.slice e)) (hj : P.info? e = some j) (hz : j.zero = some z) (hz' : zcOf z = some z')
    (hzo : z.oneCell = true ∨ ∃ cs, z = .agg cs) (hps : partsOf (fun i => some (i * j.size, j.size)) ps.toList = some ps') (h1 : z'.length = j.size) (h2 : 0 < j.size) (h3 : len * j.size ≤ 2 ^ 20) :
    SR m φ σ w (hBuildS rsv j.size len (repL z' len) ps' base τ σ) ((execOp a.eval o).run P w) := by
  unfold hBuildS
  cases hf : fillP τ ps' (repL z' len) with
  | none => exact trivial
  | some r =>
    have hzl := (zcOf_R hz' φ).1.length
    simp only [Array.length_toList] at hzl
    have hm := made_R (zcOf_R hz' φ).1 len
    rw [h1] at hm
    obtain ⟨cells, h4, h5, h6⟩ := fill_R (place' := fun i => some (i * j.size, j.size)) hT (fun k q hq => hq) hps hf hm (fun x hx => zc_ones hz' hzo x (mem_repL hx))
    have h7 : ¬ (2 ^ 24 < len * j.size) := by omega
    have ecs : cells = cells.toList.toArray := by simp
    refine newB_R hH hr e h5 h6 (v := .slice (some ⟨w.heap.size, 0, none⟩) len len) (fun φ' b hb => .sliceK b 0 len j.size len _ _ hb) (w.alloc (.cells cells e)) (by show w.heap.push _ = _; simp) rfl rfl rfl ?_
    have h4' : Instr.fill (fun i => some (i * j.size, j.size)) ((Array.range (len * j.size)).map (z.cells[· % z.cells.size]!)) (ps.toList.map fun p => (p.1, a.eval p.2)) = some cells := h4
    by_cases h0 : len * j.size = 0
    · have h8 : ∀ f : Nat → Value, (Array.range 0).map f = #[] := fun f => by simp
      have h4'' : Instr.fill (fun i => some (i * j.size, j.size)) #[] (ps.toList.map fun p => (p.1, a.eval p.2)) = some cells := by rw [h0, h8] at h4'; exact h4'
      have e0 : (Array.range 0 : Array Nat) = #[] := by simp
      simp only [execOp, ho, Instr.buildSlice, Sem.run_bind, run_underlying hu, sizeOf, typeInfo, run_program, hj, Result.andThen_ok, Sem.run_pure, h0, e0]
      simp [h4'', newRow]
    · simp [execOp, ho, Instr.buildSlice, run_underlying hu, sizeOf, typeInfo, hj, h0, zeroValue, hz, h4', newRow, show ¬ (16777216 < len * j.size) by omega]
end
end Go.Dk
namespace Go.Dk
open Go
variable [Keep]
section
variable {P : Program} {m : Id → Prop} {N : Nat} {φ : Emb} {σ : H} {w : World} {τ : Fr} {a : Act} {o : Oper} {base : Id}

/-! Bounds -/
theorem bnd_R (hT : TR φ N τ a) {x : Option Operand} {x' : Option AX} (hx : oaxOf x = some x') {d most k : Nat} (h : bnd τ x' d most = some k) :
    (x = none ∧ k = d ∧ x' = none) ∨ (k ≤ most ∧ x'.isSome = true ∧ ∃ op, x = some op ∧ ∀ M code, k ≤ M → (Instr.sliceBound (a.eval op) M code).run P w = .ok k w) := by
  cases x with
  | none => cases hx; cases h; exact .inl ⟨rfl, rfl, rfl⟩
  | some op =>
    change (axOf op).map some = some x' at hx
    cases ha : axOf op with
    | none => rw [ha] at hx; cases hx
    | some ax =>
      rw [ha] at hx; cases hx
      have hv := evR hT ha
      change (ev τ ax).asInt none _ = some k at h
      generalize ev τ ax = q at h hv
      generalize hvv : a.eval op = v at hv
      cases hv <;> try (cases h; done)
      rename_i kd n
      cases n with
      | negSucc n => cases h
      | ofNat n =>
        change ite8 (Nat.ble n most) (some n) none = some k at h
        cases hb : Nat.ble n most with
        | false => rw [hb] at h; cases h
        | true =>
          rw [hb] at h; cases h
          refine .inr ⟨Nat.le_of_ble_eq_true hb, rfl, op, rfl, fun M code hM => ?_⟩
          have h1 : (Int.ofNat k) ≤ (M : Int) := Int.ofNat_le.2 hM
          have h0 : 0 ≤ (Int.ofNat k) := Int.natCast_nonneg k
          simp only [Instr.sliceBound, hvv, asIntOf, Sem.run_bind, Sem.run_pure, Result.andThen_ok, h0, h1, and_self, if_true]
          rfl
/-- The three bounds of a slice expression; 'c': the capacity that is known of, 'C': the true one. -/
theorem bounds_R (hT : TR φ N τ a) {lo hi mx : Option Operand} {lo' hi' mx' : Option AX} (hlo : oaxOf lo = some lo') (hhi : oaxOf hi = some hi') (hmx : oaxOf mx = some mx') (hno : (hi.isNone && mx.isSome) = false)
    {isS : Bool} {n c C m' h l : Nat} (hcC : c ≤ C) (h1 : bnd τ mx' c c = some m') (h2 : bnd τ hi' n m' = some h) (h3 : bnd τ lo' 0 h = some l) :
    (Instr.sliceBounds isS n C (lo.map a.eval) (hi.map a.eval) (mx.map a.eval)).run P w = .ok (l, h, if mx'.isSome then m' else C) w ∧ (mx'.isSome = false → m' = c) ∧ m' ≤ C ∧ l ≤ max h 0 ∧ (h = n ∨ h ≤ m') := by
  rcases bnd_R (P := P) (w := w) hT hmx h1 with ⟨rfl, rfl, rfl⟩ | ⟨hm1, hm2, opm, rfl, hm3⟩ <;>
  rcases bnd_R (P := P) (w := w) hT hhi h2 with ⟨rfl, rfl, rfl⟩ | ⟨hh1, hh2, oph, rfl, hh3⟩ <;>
  rcases bnd_R (P := P) (w := w) hT hlo h3 with ⟨rfl, rfl, rfl⟩ | ⟨hl1, hl2, opl, rfl, hl3⟩
  · refine ⟨by simp [Instr.sliceBounds], fun _ => rfl, hcC, by omega, .inl rfl⟩
  · refine ⟨by simp [Instr.sliceBounds, hl3 h _ hl1], fun _ => rfl, hcC, by omega, .inl rfl⟩
  · refine ⟨by simp [Instr.sliceBounds, hh3 C _ (by omega)], fun _ => rfl, hcC, by omega, .inr hh1⟩
  · refine ⟨by simp [Instr.sliceBounds, hh3 C _ (by omega), hl3 h _ hl1], fun _ => rfl, hcC, by omega, .inr hh1⟩
  · simp at hno
  · simp at hno
  · refine ⟨by simp [Instr.sliceBounds, hm3 C _ (by omega), hh3 m' _ hh1, hm2], (fun he => by rw [he] at hm2; cases hm2), by omega, by omega, .inr hh1⟩
  · refine ⟨by simp [Instr.sliceBounds, hm3 C _ (by omega), hh3 m' _ hh1, hl3 h _ hl1, hm2], (fun he => by rw [he] at hm2; cases hm2), by omega, by omega, .inr hh1⟩
theorem bstr_extract (l : List Nat) (p q : Nat) (h : p ≤ q) : (bstr l).extract p q = bstr ((l.drop p).take (q - p)) := by
  apply ByteArray.ext
  apply Array.ext'
  simp [bstr, List.extract_eq_take_drop, List.map_take, List.map_drop]
theorem s_sliS (hT : TR φ N τ a) (hH : HR φ σ w) {t : TypeId} {x : Operand} {lo hi : Option Operand} {x' : AX} {lo' hi' : Option AX} (ho : o.op = .slice t x lo hi none) (hu : P.underlying t = some .string) (hx : axOf x = some x') (hlo : oaxOf lo = some lo') (hhi : oaxOf hi = some hi') :
    SR m φ σ w (hSliS x' lo' hi' base τ σ) ((execOp a.eval o).run P w) := by
  have h := evR hT hx
  unfold hSliS
  generalize ev τ x' = q at h
  generalize hv : a.eval x = v at h
  cases h <;> try exact trivial
  rename_i l hl
  change SR m φ σ w (match bnd τ hi' (len8 l) (len8 l) with
    | some h => (match bnd τ lo' 0 h with | some a => (match take8 (h - a) (drop8 a l) with | some r => .ok (.str r) σ | none => .no) | none => .no)
    | none => .no) _
  cases h2 : bnd τ hi' (len8 l) (len8 l) with
  | none => exact trivial
  | some h =>
    simp only
    cases h3 : bnd τ lo' 0 h with
    | none => exact trivial
    | some k =>
      simp only
      cases h4 : take8 (h - k) (drop8 k l) with
      | none => exact trivial
      | some r =>
        obtain ⟨h5, rfl⟩ := take8_eq _ _ _ h4
        rw [drop8_eq] at h5 ⊢
        rw [len8_eq] at h2
        obtain ⟨h6, _, _, h7, h8⟩ := bounds_R (P := P) (w := w) (isS := false) (mx := none) (mx' := none) (c := l.length) (C := l.length) (m' := l.length) hT hlo hhi rfl (by simp) (Nat.le_refl _) rfl h2 h3
        refine .pure hH (.str _ fun x hx => hl x (List.mem_of_mem_drop (List.mem_of_mem_take hx))) ?_
        have hsz : (bstr l).size = l.length := bstr_size l
        have : (Instr.sliceAt t (.string (bstr l)) (lo.map a.eval) (hi.map a.eval) none).run P w = .ok (.string (bstr ((l.drop k).take (h - k)))) w := by
          unfold Instr.sliceAt
          simp only [Sem.run_bind, run_underlying hu, Result.andThen_ok, Instr.slice, hsz, Option.isSome_none, Bool.false_eq_true, if_false, Sem.run_pure]
          have h6' : (Instr.sliceBounds false l.length l.length (lo.map a.eval) (hi.map a.eval) none).run P w = .ok (k, h, l.length) w := by simpa using h6
          rw [h6']
          simp only [Result.andThen_ok, Sem.run_pure]
          rw [bstr_extract _ _ _ (by omega)]
        simp only [execOp, ho, Sem.run_bind, hv, Option.map_none, this, Result.andThen_ok, Sem.run_pure]
/-- A part of a row: what is told of it. -/
theorem hSli_R (hT : TR φ N τ a) {b : Id} {off n c C es cc z : Nat} {e : Bool} {lo hi mx : Option Operand} {lo' hi' mx' : Option AX} (hlo : oaxOf lo = some lo') (hhi : oaxOf hi = some hi') (hmx : oaxOf mx = some mx') (hno : (hi.isNone && mx.isSome) = false)
    (hφ : φ b = some (cc, z)) (he : e = true → C = c) (he' : e = false → c = n ∧ n ≤ C ∧ off + C * es ≤ z) {isS : Bool} {v : AV} {σ' : H} (h : hSli b off n c es e lo' hi' mx' τ σ = .ok v σ') :
    σ' = σ ∧ ∃ l h' m', (Instr.sliceBounds isS n C (lo.map a.eval) (hi.map a.eval) (mx.map a.eval)).run P w = .ok (l, h', m') w ∧
      VR φ v (.slice (some (if m' = l then ⟨cc, off, none⟩ else ⟨cc, off + l * es, none⟩)) (h' - l) (m' - l)) := by
  unfold hSli at h
  have hcC : c ≤ C := by cases e; obtain ⟨h1, h2, _⟩ := he' rfl; omega; rw [he rfl]; exact Nat.le_refl _
  split at h
  · rename_i m' h1
    split at h
    · rename_i h' h2
      split at h
      · rename_i l h3
        obtain ⟨h4, h5, h6, h7, h8⟩ := bounds_R (P := P) (w := w) (isS := isS) hT hlo hhi hmx hno hcC h1 h2 h3
        have exact_m : (e || mx'.isSome) = true → (if mx'.isSome then m' else C) = m' := fun hem => by
          cases hmm : mx'.isSome with
          | true => rfl
          | false =>
            rw [hmm] at hem
            have := h5 hmm
            rw [he (by simpa using hem)]
            simp [this]
        by_cases hml : m' = l
        · rw [if_pos hml] at h
          by_cases hem : (e || mx'.isSome) = true
          · rw [if_pos hem] at h; cases h
            refine ⟨rfl, l, h', _, h4, ?_⟩
            rw [exact_m hem, if_pos hml]
            exact .sliceK _ _ _ _ _ _ _ hφ
          · rw [if_neg hem] at h; cases h
        · rw [if_neg hml] at h; cases h
          refine ⟨rfl, l, h', _, h4, ?_⟩
          cases hem : (e || mx'.isSome) with
          | true =>
            rw [exact_m hem, if_neg hml]
            exact .sliceK _ _ _ _ _ _ _ hφ
          | false =>
            simp only [Bool.or_eq_false_iff] at hem
            obtain ⟨h9, h10, h11⟩ := he' hem.1
            have h12 := h5 hem.2
            rw [hem.2]
            simp only [Bool.false_eq_true, if_false]
            have hl : l ≤ n := by omega
            have hlm : l ≤ m' := by omega
            rw [if_neg (by omega)]
            refine .sliceU _ _ _ _ _ _ z hφ (by omega) ?_
            have : l * es + (C - l) * es = C * es := by rw [← Nat.add_mul]; congr 1; omega
            omega
      · cases h
    · cases h
  · cases h
theorem s_sliL (hT : TR φ N τ a) (hH : HR φ σ w) {t e : TypeId} {j : TypeInfo} {x : Operand} {lo hi mx : Option Operand} {x' : AX} {lo' hi' mx' : Option AX} (ho : o.op = .slice t x lo hi mx) (hu : P.underlying t = some (.slice e)) (hj : P.info? e = some j) (hx : axOf x = some x')
    (hlo : oaxOf lo = some lo') (hhi : oaxOf hi = some hi') (hmx : oaxOf mx = some mx') (hno : (hi.isNone && mx.isSome) = false) :
    SR m φ σ w (hSliL j.size x' lo' hi' mx' base τ σ) ((execOp a.eval o).run P w) := by
  have h := evR hT hx
  have fin : ∀ {b off n cap : Nat} {l h' m' : Nat}, a.eval x = .slice (some ⟨b, off, none⟩) n cap → (Instr.sliceBounds true n cap (lo.map a.eval) (hi.map a.eval) (mx.map a.eval)).run P w = .ok (l, h', m') w →
      (execOp a.eval o).run P w = .ok (.value (.slice (some (if m' = l then ⟨b, off, none⟩ else ⟨b, off + l * j.size, none⟩)) (h' - l) (m' - l))) w := fun {b off n cap l h' m'} hv hb => by
    simp only [execOp, ho, Sem.run_bind, hv, Instr.sliceAt, run_underlying hu, Result.andThen_ok, Instr.slice, hb, sizeOf, typeInfo, run_program, hj, Sem.run_pure]
    by_cases hml : m' = l <;> simp [hml, add_eq]
  refine .no_or fun hne => ?_
  unfold hSliL at hne ⊢
  generalize ev τ x' = q at h hne
  generalize hv : a.eval x = v at h
  cases h <;> try exact absurd rfl hne
  · rename_i b off n es cap c z hb
    change (if j.size = es then hSli b off n cap j.size true lo' hi' mx' τ σ else .no) ≠ .no at hne
    change SR m φ σ w (if j.size = es then hSli b off n cap j.size true lo' hi' mx' τ σ else .no) _
    by_cases hes : j.size = es
    · rw [if_pos hes] at hne ⊢
      cases hq : hSli b off n cap j.size true lo' hi' mx' τ σ with
      | no => exact trivial
      | call k args =>
        unfold hSli at hq
        repeat' split at hq
        all_goals cases hq
      | ok r σ' =>
        obtain ⟨rfl, l, h', m', h1, h2⟩ := hSli_R (P := P) (w := w) (isS := true) hT hlo hhi hmx hno hb (fun _ => rfl) (fun h => by cases h) hq
        exact .pure hH h2 (fin hv h1)
    · rw [if_neg hes] at hne; exact absurd rfl hne
  · rename_i b off n es cap c z hb hn hz
    change (if j.size = es then hSli b off n n j.size false lo' hi' mx' τ σ else .no) ≠ .no at hne
    change SR m φ σ w (if j.size = es then hSli b off n n j.size false lo' hi' mx' τ σ else .no) _
    by_cases hes : j.size = es
    · rw [if_pos hes] at hne ⊢
      cases hq : hSli b off n n j.size false lo' hi' mx' τ σ with
      | no => exact trivial
      | call k args =>
        unfold hSli at hq
        repeat' split at hq
        all_goals cases hq
      | ok r σ' =>
        obtain ⟨rfl, l, h', m', h1, h2⟩ := hSli_R (P := P) (w := w) (isS := true) (C := cap) hT hlo hhi hmx hno hb (fun h => by cases h) (fun _ => ⟨rfl, hn, hes ▸ hz⟩) hq
        exact .pure hH h2 (fin hv h1)
    · rw [if_neg hes] at hne; exact absurd rfl hne
  · change SR m φ σ w (match bnd τ mx' 0 0, bnd τ hi' 0 0, bnd τ lo' 0 0 with | some _, some _, some _ => .ok .nils σ | _, _, _ => .no) _
    split
    · rename_i m' h' l h1 h2 h3
      have z0 : ∀ {x' : Option AX} {k : Nat}, bnd τ x' 0 0 = some k → k = 0 := fun {x' k} hk => by
        cases x' with
        | none => cases hk; rfl
        | some ax =>
          change (ev τ ax).asInt none _ = some k at hk
          cases hev : ev τ ax <;> rw [hev] at hk <;> try (cases hk; done)
          rename_i kd n
          cases n with
          | negSucc n => cases hk
          | ofNat n =>
            change ite8 (Nat.ble n 0) (some n) none = some k at hk
            cases hb : Nat.ble n 0 with
            | false => rw [hb] at hk; cases hk
            | true => rw [hb] at hk; cases hk; have := Nat.le_of_ble_eq_true hb; omega
      have e1 := z0 h1; have e2 := z0 h2; have e3 := z0 h3
      subst e1; subst e2; subst e3
      obtain ⟨h4, _, _, _, _⟩ := bounds_R (P := P) (w := w) (isS := true) (n := 0) (C := 0) hT hlo hhi hmx hno (Nat.le_refl 0) h1 h2 h3
      have h4' : (Instr.sliceBounds true 0 0 (lo.map a.eval) (hi.map a.eval) (mx.map a.eval)).run P w = .ok (0, 0, 0) w := by simpa using h4
      refine .pure hH .nils ?_
      simp only [execOp, ho, Sem.run_bind, hv, Instr.sliceAt, run_underlying hu, Result.andThen_ok, Instr.slice, h4', sizeOf, typeInfo, run_program, hj, Sem.run_pure]
      rfl
    · exact trivial
theorem s_sliA (hT : TR φ N τ a) (hH : HR φ σ w) {t e : TypeId} {n : Nat} {j : TypeInfo} {x : Operand} {lo hi mx : Option Operand} {x' : AX} {lo' hi' mx' : Option AX} (ho : o.op = .slice t x lo hi mx) (hu : P.underlying t = some (.array n e)) (hj : P.info? e = some j) (hx : axOf x = some x')
    (hlo : oaxOf lo = some lo') (hhi : oaxOf hi = some hi') (hmx : oaxOf mx = some mx') (hno : (hi.isNone && mx.isSome) = false) :
    SR m φ σ w (hSliA n j.size x' lo' hi' mx' base τ σ) ((execOp a.eval o).run P w) := by
  have h := evR hT hx
  unfold hSliA
  generalize ev τ x' = q at h
  generalize hv : a.eval x = v at h
  cases h <;> try exact trivial
  rename_i b off c z hb
  change SR m φ σ w (hSli b off n n j.size true lo' hi' mx' τ σ) _
  cases hq : hSli b off n n j.size true lo' hi' mx' τ σ with
  | no => exact trivial
  | call k args =>
    unfold hSli at hq
    repeat' split at hq
    all_goals cases hq
  | ok r σ' =>
    obtain ⟨rfl, l, h', m', h1, h2⟩ := hSli_R (P := P) (w := w) (isS := false) hT hlo hhi hmx hno hb (fun _ => rfl) (fun h => by cases h) hq
    refine .pure hH h2 ?_
    simp only [execOp, ho, Sem.run_bind, hv, Instr.sliceAt, run_underlying hu, Result.andThen_ok, Instr.sureAddr, h1, sizeOf, typeInfo, run_program, hj, Sem.run_pure]
    by_cases hml : m' = l <;> simp [hml, add_eq]
end
end Go.Dk
namespace Go.Dk
open Go
variable [Keep]
section
variable {P : Program} {m : Id → Prop} {N : Nat} {φ : Emb} {σ : H} {w : World} {τ : Fr} {a : Act} {o : Oper} {base : Id}

theorem lenOf_R {X : AV} {v : Value} {k : Nat} (hv : VR φ X v) (h : lenA X = some k) (w : World) : (Builtin.lenOf v).run P w = .ok k w := by
  cases hv <;> try (cases h; done)
  all_goals (cases h; simp [Builtin.lenOf, bstr_size, len8_eq])
/-- What is appended or copied. -/
theorem firstN_R (hH : HR φ σ w) {X : AV} {v : Value} {es k K : Nat} {xs : List AV} (hv : VR φ X v) (hk : lenA X = some K) (hkK : k ≤ K) (h : firstN es k X σ = some xs) :
    ∃ vs, VRs φ xs vs ∧ (∀ x ∈ xs, x.one = true) ∧ vs.length = k * es ∧ (∀ w1 : World, w1.heap = w.heap → (Builtin.firstCells es k v).run P w1 = .ok vs.toArray w1) := by
  cases hv <;> try (cases h; done)
  · rename_i l hl
    change (if es = 1 then (match take8 k l with | some r => some (map8 (fun n => .int .u8 (.ofNat n)) r) | none => none) else none) = some xs at h
    by_cases hes : es = 1
    · rw [if_pos hes] at h
      split at h
      · rename_i r hr
        cases h
        obtain ⟨h1, rfl⟩ := take8_eq _ _ _ hr
        subst hes
        rw [map8_eq]
        refine ⟨(l.take k).map fun n => .int .u8 (Int.ofNat n), ?_, fun x hx => ?_, by simp; omega, fun w1 _ => ?_⟩
        · refine .of_get (by simp) fun j x hx => ?_
          simp only [List.getElem?_map] at hx ⊢
          cases hj : (l.take k)[j]? with
          | none => rw [hj] at hx; cases hx
          | some n => rw [hj] at hx; cases hx; exact ⟨_, rfl, .int _ _⟩
        · simp only [List.mem_map] at hx; obtain ⟨n, _, rfl⟩ := hx; rfl
        · simp only [Builtin.firstCells, Sem.run_pure]
          congr 1
          apply Array.ext'
          rw [bstr_extract _ _ _ (Nat.zero_le _)]
          simp only [Nat.sub_zero, List.drop_zero, Array.toList_map, bstr_list, List.map_map]
          apply List.map_congr_left
          intro n hn
          have : n < 256 := hl n (List.mem_of_mem_take hn)
          simp
          omega
      · cases h
    · rw [if_neg hes] at h; cases h
  · rename_i b off n es' cap c z hb
    change σ.row none (fun c _ => c.take (k * es) off) b = some xs at h
    obtain ⟨t, q, hblk, ht⟩ := H.row_eq h (by simp)
    obtain ⟨vs, h1, h2, h3, h4, h5⟩ := row_take (P := P) hH hblk hb ht
    refine ⟨vs, h2, h3, h4, fun w1 hw1 => ?_⟩
    have hc : ∀ j v, vs[j]? = some v → w1.cell? ((⟨c, off, none⟩ : Addr).add j) = some v := fun j v hj => by
      have := h5 j v hj
      simpa [World.cell?, hw1] using this
    exact run_firstCells_some w1 es k ⟨c, off, none⟩ n cap vs h4 hc
  · rename_i b off n es' cap c z hb hn hz
    change σ.row none (fun c _ => c.take (k * es) off) b = some xs at h
    obtain ⟨t, q, hblk, ht⟩ := H.row_eq h (by simp)
    obtain ⟨vs, h1, h2, h3, h4, h5⟩ := row_take (P := P) hH hblk hb ht
    refine ⟨vs, h2, h3, h4, fun w1 hw1 => ?_⟩
    have hc : ∀ j v, vs[j]? = some v → w1.cell? ((⟨c, off, none⟩ : Addr).add j) = some v := fun j v hj => by
      have := h5 j v hj
      simpa [World.cell?, hw1] using this
    exact run_firstCells_some w1 es k ⟨c, off, none⟩ n cap vs h4 hc
  · cases h; cases hk
    have : k = 0 := by omega
    subst this
    exact ⟨[], .nil, fun x hx => by simp at hx, by simp, fun w1 _ => by simp [Builtin.firstCells]⟩

/-! append -/
section
variable {t u ty e : TypeId} {i : TypeInfo} {z : Value} (ht : P.underlying t = some (.slice e)) (hu : (∃ e', P.underlying u = some (.slice e')) ∨ P.underlying u = some .string) (hi : P.info? e = some i)
include ht hu hi
theorem app_room {sb : Option Addr} {sLen sCap k : Nat} {x : Value} {vs : List Value} {w' : World} (hl : (Builtin.lenOf x).run P w = .ok k w) (hf : (Builtin.firstCells i.size k x).run P w = .ok vs.toArray w) (hroom : sLen + k ≤ sCap)
    (hst : match sb with | some p => (storeCells (p.add (sLen * i.size)) vs).run P w = .ok () w' | none => w' = w) :
    (Builtin.append_ #[t, u] ty #[.slice sb sLen sCap, x]).run P w = .ok (.slice sb (sLen + k) sCap) w' := by
  cases sb with
  | none =>
    subst hst
    rcases hu with ⟨e', hu⟩ | hu <;> simp [Builtin.append_, run_underlying ht, run_underlying hu, sizeOf, typeInfo, hi, hl, hroom, hf]
  | some p =>
    rcases hu with ⟨e', hu⟩ | hu <;> simp [Builtin.append_, run_underlying ht, run_underlying hu, sizeOf, typeInfo, hi, hl, hroom, hf, hst]
theorem app_grow (hz : i.zero = some z) {sb : Option Addr} {sLen sCap k : Nat} {x : Value} {old vs : List Value} (hl : (Builtin.lenOf x).run P w = .ok k w) (hf : (Builtin.firstCells i.size k x).run P w.drew = .ok vs.toArray w.drew)
    (hfo : (Builtin.firstCells i.size sLen (.slice sb sLen sCap)).run P w.drew = .ok old.toArray w.drew) (hroom : ¬ sLen + k ≤ sCap) (hb : (sLen + k) * i.bytes ≤ 2 ^ 40) (hn : sLen + k ≤ 2 ^ 40) :
    (Builtin.append_ #[t, u] ty #[.slice sb sLen sCap, x]).run P w = .ok (.slice (some ⟨w.heap.size, 0, none⟩) (sLen + k) (grownCap w (sLen + k) sCap e))
      (w.drew.alloc (.cells (old.toArray ++ vs.toArray ++ Builtin.zeroCells z.cells (grownCap w (sLen + k) sCap e - (sLen + k))) e)) := by
  have h1 : ¬ ((9223372036854775807 : Int) < (sLen : Int) + (k : Int)) := by omega
  have h2 : ¬ (281474976710656 < Builtin.nextslicecap (sLen + k) sCap * i.bytes) := by
    have := growslice_fits (need := sLen + k) (old := sCap) (bytes := i.bytes) (by omega) (by omega)
    omega
  have e2 : ∀ A : Array Value, (old ++ vs).toArray ++ A = old.toArray ++ (vs.toArray ++ A) := fun A => by apply Array.ext'; simp
  rcases hu with ⟨e', hu⟩ | hu <;>
    simp [Builtin.append_, run_underlying ht, run_underlying hu, sizeOf, typeInfo, hi, hz, zeroValue, hl, hroom, hf, hfo, h1, h2, Question.forced, newRow, grownCap, e2]
end
/-- A new row with places to spare, for a number that is new; the row of a killed block is let go. -/
theorem grown_row {σ1 : H} (hH : HR φ σ w) (hk : HR φ σ1 w) (hn : σ1.n = σ.n) (hsub : ∀ b x, σ1.blk b = some x → σ.blk b = some x) {n' : Id} (hn' : σ1.n.succ = some n') {x : Blk} {cur : Array Value} (e : TypeId) (w' : World)
    (hw : w'.heap = w.heap.push (.cells cur e)) (hos : w'.os = w.os) (htape : w'.tape = w.tape) (hout : w'.output = w.output) (hm : m σ.n)
    (hbr : BR (upd φ σ1.n (w.heap.size, cur.size)) x w.heap.size cur.size w') :
    HR (upd φ σ1.n (w.heap.size, cur.size)) ⟨n', set5 σ1.n (some x) σ1.m⟩ w' ∧ Fm m φ σ w (upd φ σ1.n (w.heap.size, cur.size)) ⟨n', set5 σ1.n (some x) σ1.m⟩ w' := by
  have hnum := Id.succ_num hn'
  have hfr : φ σ1.n = none := hk.fresh _ (Nat.le_refl _)
  obtain ⟨h1, h2⟩ := HR.add (m := m) (hkp := fun h => absurd h (Nat.lt_irrefl _)) (σ' := ⟨n', set5 σ1.n (some x) σ1.m⟩) (w' := w') hk σ1.n x w.heap.size cur.size hfr (by rw [hn]; exact hm) (by show σ1.n.num ≤ n'.num; omega) (by show σ1.n.num < n'.num; omega) (fun i => H.blk_new σ1 n' _ i)
    (fun i y z hi hc => by
      obtain ⟨c', z', h1, h2⟩ := hk.blk i y hi
      rw [hc] at h1; cases h1
      have := h2.lt
      omega)
    (fun k hk _ => by rw [hw, Array.getElem?_push, if_neg (by omega)]) (by rw [hw]; simp) hos htape hout hbr
  have h3 := h2 (Nat.le_refl _)
  exact ⟨h1, { h3 with
    kept := fun k hk hno => h3.kept k hk fun b x c z hb hc => hno b x c z (hsub b x hb) hc
    img := fun b x c z hb hc hlt => by
      obtain ⟨b0, x0, z0, h4, h5⟩ := h3.img b x c z hb hc hlt
      exact ⟨b0, x0, z0, hsub b0 x0 h4, h5⟩
    n := by have := h3.n; rw [hn] at this; exact this }⟩
theorem len_zeroCells (z : Array Value) (n : Nat) : (Builtin.zeroCells z n).size = n * z.size := by simp [Builtin.zeroCells]
/-- What stands in the grown row. -/
theorem grown_BR {φ' : Emb} {old vs : List AV} {old' vs' : List Value} {sp : Array Value} {t : T AV} {q : Nat} (ho : VRs φ' old old') (hv : VRs φ' vs vs') (h1 : ∀ x ∈ old, x.one = true) (h2 : ∀ x ∈ vs, x.one = true)
    (hq : q = old.length + vs.length) (ht : ∀ k x, t.get k = some x → (old ++ vs)[k]? = some x) {c e : Nat} {w' : World} (hw : w'.heap[c]? = some (.cells (old'.toArray ++ vs'.toArray ++ sp) e)) :
    BR φ' (.cells t q) c (old'.toArray ++ vs'.toArray ++ sp).size w' := by
  have l1 := ho.length; have l2 := hv.length
  refine ⟨_, e, hw, rfl, by simp; omega, fun k x hx => ?_⟩
  have h3 := ht k x hx
  have hlt : k < old.length + vs.length := by have := (List.getElem?_eq_some_iff.1 h3).1; simpa using this
  obtain ⟨v, h4, h5⟩ := (ho.append hv).get k x h3
  refine ⟨by omega, ?_, v, ?_, h5⟩
  · rcases List.mem_append.1 (List.mem_of_getElem? h3) with h | h
    · exact h1 x h
    · exact h2 x h
  · rw [Array.getElem?_append_left (by simp; omega)]
    simpa using h4
theorem s_app (hT : TR φ N τ a) (hH : HR φ σ w) {t u e : TypeId} {i : TypeInfo} {z : Value} {s x : Operand} {s' x' : AX} (ho : o.op = .call { callee := .builtin .append, args := #[s, x], argTypes := #[t, u] }) (ht : P.underlying t = some (.slice e))
    (hu : (∃ e', P.underlying u = some (.slice e')) ∨ P.underlying u = some .string) (hi : P.info? e = some i) (hz : i.zero = some z) (hzs : z.cells.size = i.size) (hs : axOf s = some s') (hx : axOf x = some x') (hm : m σ.n) :
    SR m φ σ w (hApp i.size i.bytes s' x' base τ σ) ((execOp a.eval o).run P w) := by
  have h := evR hT hs
  have h2 := evR hT hx
  have fin : ∀ {v : Value} {w' : World}, (Builtin.append_ #[t, u] o.type #[a.eval s, a.eval x]).run P w = .ok v w' → (execOp a.eval o).run P w = .ok (.value v) w' := fun hr => by
    simp [execOp, ho, resolve, invoke, builtin, hr]
  refine .no_or fun hne => ?_
  unfold hApp at hne ⊢
  cases hk : lenA (ev τ x') with
  | none => rw [hk] at hne; exact absurd rfl hne
  | some k =>
  rw [hk] at hne
  simp only at hne ⊢
  cases hxs : firstN i.size k (ev τ x') σ with
  | none => rw [hxs] at hne; exact absurd rfl hne
  | some xs =>
  rw [hxs] at hne
  simp only at hne ⊢
  obtain ⟨vs, hv1, hv2, hv3, hv4⟩ := firstN_R (P := P) hH h2 hk (Nat.le_refl k) hxs
  have hl := lenOf_R (P := P) h2 hk w
  have hf := hv4 w rfl
  have hfd := hv4 w.drew rfl
  have hvl := hv1.length
  generalize hsx : ev τ s' = q at h hne
  generalize hsv : a.eval s = v at h fin
  -- what a grown row comes to
  have grow : ∀ {sb : Option Addr} {sLen sCap : Nat} {old : List AV} {old' : List Value} {σ1 : H}, v = .slice sb sLen sCap → HR φ σ1 w → σ1.n = σ.n → (∀ b x, σ1.blk b = some x → σ.blk b = some x) → VRs φ old old' → (∀ x ∈ old, x.one = true) → old.length = sLen * i.size →
      (Builtin.firstCells i.size sLen (.slice sb sLen sCap)).run P w.drew = .ok old'.toArray w.drew → ¬ sLen + k ≤ sCap → (sLen + k) * i.bytes ≤ 2 ^ 40 → sLen + k ≤ 2 ^ 40 → ∀ (tr : T AV) (n' : Id), σ1.n.succ = some n' → (∀ j x, tr.get j = some x → (old ++ xs)[j]? = some x) →
      SR m φ σ w (.ok (.slice σ1.n 0 (sLen + k) i.size none) ⟨n', set5 σ1.n (some (.cells tr (old.length + xs.length))) σ1.m⟩) ((execOp a.eval o).run P w) := by
    intro sb sLen sCap old old' σ1 hve hk1 hn1 hsub1 hold hold1 hlen hfo hroom hb hn tr n' hn' htr
    subst hve
    have hr := app_grow (P := P) (w := w) (ty := o.type) (z := z) ht hu hi hz hl hfd hfo hroom hb hn
    have hfr : φ σ1.n = none := hk1.fresh _ (Nat.le_refl _)
    have hsz : (old'.toArray ++ vs.toArray ++ Builtin.zeroCells z.cells (grownCap w (sLen + k) sCap e - (sLen + k))).size = grownCap w (sLen + k) sCap e * i.size := by
      have hol := hold.length
      have hge := grownCap_ge w (sLen + k) sCap e
      simp only [Array.size_append, List.size_toArray, len_zeroCells, hzs, hol, hlen, hv3]
      rw [← Nat.add_mul, ← Nat.add_mul]
      congr 1; omega
    have hw' : (w.drew.alloc (.cells (old'.toArray ++ vs.toArray ++ Builtin.zeroCells z.cells (grownCap w (sLen + k) sCap e - (sLen + k))) e)).heap = w.heap.push (.cells (old'.toArray ++ vs.toArray ++ Builtin.zeroCells z.cells (grownCap w (sLen + k) sCap e - (sLen + k))) e) := rfl
    obtain ⟨h3, h4⟩ := grown_row (m := m) hH hk1 hn1 hsub1 hn' (x := .cells tr (old.length + xs.length)) e _ hw' rfl rfl rfl hm
      (grown_BR (hold.mono (Sub.upd _ hfr)) (hv1.mono (Sub.upd _ hfr)) hold1 hv2 rfl htr (by rw [hw', Array.getElem?_push, if_pos rfl]))
    exact ⟨_, _, _, .inl (fin hr), .sliceU _ 0 _ _ _ _ _ (upd_same _ _ _) (grownCap_ge _ _ _ _) (by rw [hsz]; omega), h3, h4⟩
  have layOld : ∀ {old : List AV}, ∀ j x, (T.lay (old ++ xs) 0 .nil).get j = some x → (old ++ xs)[j]? = some x := fun {old} j x hj => by
    rw [T.lay_get] at hj
    by_cases hin : 0 ≤ j ∧ j < 0 + (old ++ xs).length
    · rw [if_pos hin] at hj; simpa using hj
    · rw [if_neg hin] at hj; cases hj
  cases h <;> try exact absurd rfl hne
  · -- a row of which the capacity is known
    rename_i b off n es cap c zz hb
    change (if i.size ≠ es then OR.no else if ¬ ((n + k) * i.bytes ≤ 2 ^ 40 ∧ n + k ≤ 2 ^ 40) then .no else
      if n + k ≤ cap then (if off = 0 then σ.row .no (fun t m => match T.over xs (n * i.size) t with | some t' => .ok (.slice b 0 (n + k) i.size (some cap)) (σ.put b (some (.cells t' m))) | none => .no) b else .no)
      else σ.row .no (fun t _ => match t.take (n * i.size) off with | some old => σ.new .no (fun b' σ => .ok (.slice b' 0 (n + k) i.size none) σ) (cellsB (app8 old xs)) | none => .no) b) ≠ .no at hne
    change SR m φ σ w (if i.size ≠ es then OR.no else if ¬ ((n + k) * i.bytes ≤ 2 ^ 40 ∧ n + k ≤ 2 ^ 40) then .no else
      if n + k ≤ cap then (if off = 0 then σ.row .no (fun t m => match T.over xs (n * i.size) t with | some t' => .ok (.slice b 0 (n + k) i.size (some cap)) (σ.put b (some (.cells t' m))) | none => .no) b else .no)
      else σ.row .no (fun t _ => match t.take (n * i.size) off with | some old => σ.new .no (fun b' σ => .ok (.slice b' 0 (n + k) i.size none) σ) (cellsB (app8 old xs)) | none => .no) b) _
    by_cases hes : i.size ≠ es
    · rw [if_pos hes] at hne; exact absurd rfl hne
    rw [if_neg hes] at hne ⊢
    by_cases hbn : ¬ ((n + k) * i.bytes ≤ 2 ^ 40 ∧ n + k ≤ 2 ^ 40)
    · rw [if_pos hbn] at hne; exact absurd rfl hne
    rw [if_neg hbn] at hne ⊢
    have hbn' : (n + k) * i.bytes ≤ 2 ^ 40 ∧ n + k ≤ 2 ^ 40 := Classical.not_not.1 hbn
    by_cases hroom : n + k ≤ cap
    · rw [if_pos hroom] at hne ⊢
      by_cases hoff : off = 0
      · rw [if_pos hoff] at hne ⊢
        obtain ⟨tt, mm, hblk, he⟩ := H.row_eq rfl hne
        rw [← he]
        cases hov : T.over xs (n * i.size) tt with
        | none => exact trivial
        | some t' =>
          obtain ⟨w', h5, h6, h7⟩ := row_over (P := P) (m := m) hH hblk hb hov hv1 hv2
          refine ⟨φ, _, w', .inl (fin (app_room ht hu hi hl hf hroom (sb := some ⟨c, off, none⟩) (by show (storeCells (Addr.add ⟨c, off, none⟩ (n * i.size)) vs).run P w = _; rw [add_eq, hoff, Nat.zero_add]; exact h5))), hoff ▸ .sliceK _ _ _ _ _ _ _ hb, h6, h7⟩
      · rw [if_neg hoff] at hne; exact absurd rfl hne
    · rw [if_neg hroom] at hne ⊢
      obtain ⟨tt, mm, hblk, he⟩ := H.row_eq rfl hne
      rw [← he] at hne ⊢
      cases htk : tt.take (n * i.size) off with
      | none => exact trivial
      | some old =>
        rw [htk] at hne
        simp only at hne ⊢
        obtain ⟨old', h5, h6, h7, h8, h9⟩ := row_take (P := P) hH hblk hb htk
        obtain ⟨n', hn', he2⟩ := H.new_eq rfl hne
        rw [← he2]
        have hol := h6.length
        have := grow (σ1 := σ) rfl hH rfl (fun _ _ h => h) h6 h7 (by omega) (run_firstCells_some w.drew i.size n ⟨c, off, none⟩ n cap old' h8 (by simpa using h9)) hroom hbn'.1 hbn'.2 (T.lay (old ++ xs) 0 .nil) n' hn' layOld
        rw [app8_eq]
        unfold cellsB
        rw [len8_eq, List.length_append]
        exact this
  · -- a row of which the capacity is not known
    rename_i b off n es cap c zz hb hn hzz
    change (if i.size ≠ es then OR.no else if ¬ ((n + k) * i.bytes ≤ 2 ^ 40 ∧ n + k ≤ 2 ^ 40) then .no else
      if k = 0 then .ok (.slice b off n i.size none) σ else if off = 0 then
        σ.row .no (fun t m => if m = n * i.size then (σ.put b none).new .no (fun b' σ => .ok (.slice b' 0 (n + k) i.size none) σ) (.cells (T.lay xs m t) (m + len8 xs)) else .no) b else .no) ≠ .no at hne
    change SR m φ σ w (if i.size ≠ es then OR.no else if ¬ ((n + k) * i.bytes ≤ 2 ^ 40 ∧ n + k ≤ 2 ^ 40) then .no else
      if k = 0 then .ok (.slice b off n i.size none) σ else if off = 0 then
        σ.row .no (fun t m => if m = n * i.size then (σ.put b none).new .no (fun b' σ => .ok (.slice b' 0 (n + k) i.size none) σ) (.cells (T.lay xs m t) (m + len8 xs)) else .no) b else .no) _
    by_cases hes : i.size ≠ es
    · rw [if_pos hes] at hne; exact absurd rfl hne
    rw [if_neg hes] at hne ⊢
    have hes' : i.size = es := Classical.not_not.1 hes
    subst hes'
    by_cases hbn : ¬ ((n + k) * i.bytes ≤ 2 ^ 40 ∧ n + k ≤ 2 ^ 40)
    · rw [if_pos hbn] at hne; exact absurd rfl hne
    rw [if_neg hbn] at hne ⊢
    have hbn' : (n + k) * i.bytes ≤ 2 ^ 40 ∧ n + k ≤ 2 ^ 40 := Classical.not_not.1 hbn
    by_cases hk0 : k = 0
    · rw [if_pos hk0]
      subst hk0
      have hvs : vs = [] := List.eq_nil_of_length_eq_zero (by omega)
      subst hvs
      refine .pure hH (.sliceU _ _ _ _ _ _ _ hb hn hzz) (fin ?_)
      exact app_room ht hu hi hl hf (by omega) (sb := some ⟨c, off, none⟩) rfl
    · rw [if_neg hk0] at hne ⊢
      by_cases hoff : off = 0
      · rw [if_pos hoff] at hne ⊢
        subst hoff
        obtain ⟨tt, mm, hblk, he⟩ := H.row_eq rfl hne
        rw [← he] at hne ⊢
        by_cases hmm : mm = n * i.size
        · simp only [if_pos hmm] at hne ⊢
          obtain ⟨n', hn', he2⟩ := H.new_eq rfl hne
          rw [← he2]
          have hkill := hH.kill b
          have hsub : ∀ i y, (σ.put b none).blk i = some y → σ.blk i = some y := fun i y hy => by
            rw [H.blk_put] at hy
            by_cases e : b = i
            · rw [if_pos e] at hy; cases hy
            · rwa [if_neg e] at hy
          obtain ⟨c', z', hb', hbr⟩ := hH.blk b _ hblk
          rw [hb] at hb'; cases hb'
          obtain ⟨cur, e0, hc1, hc2, hc3, hc4⟩ := hbr
          by_cases hroom : n + k ≤ cap
          · -- in place
            have hfit : n * i.size + 0 + vs.length ≤ cur.size := by
              have : (n + k) * i.size ≤ cap * i.size := Nat.mul_le_mul_right _ hroom
              rw [Nat.add_mul] at this
              omega
            have hv1' : ∀ v ∈ vs, v.oneCell' = true := fun v hv => by
              obtain ⟨j, hj, rfl⟩ := List.mem_iff_getElem.1 hv
              obtain ⟨u, h8, h9⟩ := hv1.get j xs[j] (List.getElem?_eq_getElem (by omega))
              rw [List.getElem?_eq_getElem hj] at h8; cases h8
              exact h9.one_cell (hv2 _ (List.getElem_mem _))
            have hst := run_storeCells_at P c (n * i.size) e0 vs 0 cur w hc1 hfit hv1'
            simp only [Nat.add_zero] at hst
            have hr := app_room (P := P) (w := w) (ty := o.type) ht hu hi hl hf hroom (sb := some ⟨c, 0, none⟩) (sLen := n) (sCap := cap) (by show (storeCells (Addr.add ⟨c, 0, none⟩ (n * i.size)) vs).run P w = _; rw [add_eq, Nat.zero_add]; exact hst)
            have hnum : n'.num = σ.n.num + 1 := Id.succ_num hn'
            have hfr : φ σ.n = none := hH.fresh _ (Nat.le_refl _)
            have hset := setRow_heap w c cur (cur.toList.take (n * i.size) ++ vs ++ cur.toList.drop (n * i.size + vs.length)).toArray e0 _ hc1
            obtain ⟨h3, _⟩ := HR.add (m := m) (hkp := fun _ => by
              cases e : Keep.at' c with
              | none => rfl
              | some o => exact absurd hb ((hH.keep c o e).2 b _ zz hblk)) (σ' := ⟨n', set5 σ.n (some (.cells (T.lay xs mm tt) (mm + len8 xs))) (σ.put b none).m⟩) (w' := w.setRow c (cur.toList.take (n * i.size) ++ vs ++ cur.toList.drop (n * i.size + vs.length)).toArray) hkill σ.n
              (.cells (T.lay xs mm tt) (mm + len8 xs)) c zz hfr hm (by show σ.n.num ≤ n'.num; omega) (by show σ.n.num < n'.num; omega) (fun j => H.blk_new (σ.put b none) n' _ j)
              (fun j y z1 hj hc => by
                have hj' := hsub j y hj
                have := hH.inj j b y _ c z1 zz hj' hblk hc hb
                subst this
                rw [H.blk_put, if_pos rfl] at hj; cases hj)
              (fun q hq hqc => setRow_other w c q _ hqc) (by rw [size_setRow]; exact Nat.le_refl _) rfl rfl rfl
              ⟨_, e0, hset, by simp; omega, by rw [len8_eq]; omega, fun q y hy => by
                rw [T.lay_get] at hy
                by_cases hin : mm ≤ q ∧ q < mm + xs.length
                · rw [if_pos hin] at hy
                  obtain ⟨u, h8, h9⟩ := hv1.get _ y hy
                  refine ⟨by rw [len8_eq]; omega, hv2 y (List.mem_of_getElem? hy), u, ?_, h9.mono (Sub.upd _ hfr)⟩
                  rw [List.getElem?_toArray, List.append_assoc, List.getElem?_append_right (by simp; omega), List.getElem?_append_left (by simp; omega)]
                  have : q - (cur.toList.take (n * i.size)).length = q - mm := by simp; omega
                  rw [this, h8]
                · rw [if_neg hin] at hy
                  obtain ⟨h8, h9, u, h10, h11⟩ := hc4 q y hy
                  refine ⟨by omega, h9, u, ?_, h11.mono (Sub.upd _ hfr)⟩
                  rw [List.getElem?_toArray, List.append_assoc, List.getElem?_append_left (by simp; omega)]
                  rw [List.getElem?_take, if_pos (by omega)]
                  simpa using h10⟩
            refine ⟨upd φ σ.n (c, zz), _, _, .inl (fin hr), .sliceU _ 0 _ _ _ _ _ (upd_same φ σ.n _) hroom hzz, h3, ?_⟩
            exact ⟨Sub.upd _ hfr, rfl, rfl, rfl, by rw [size_setRow]; exact Nat.le_refl _, fun q hq hno => setRow_other w c q _ (fun e => hno b _ c zz hblk hb e.symm), fun j y c1 z1 hj h1 hlt => by
              rw [H.blk_new] at hj
              by_cases ej : (σ.put b none).n = j
              · have ej' : σ.n = j := ej
                rw [← ej', upd_same] at h1; cases h1
                exact ⟨b, _, zz, hblk, hb⟩
              · rw [if_neg ej] at hj
                have ej' : j ≠ σ.n := fun e => ej e.symm
                rw [upd_ne _ _ ej'] at h1
                exact ⟨j, y, z1, hsub j y hj, h1⟩, fun j h0 h1 => by
              by_cases ej : j = σ.n
              · rw [ej]; exact hm
              · rw [upd_ne _ _ ej] at h1; exact absurd h0 h1, by show σ.n.num ≤ n'.num; omega⟩
          · -- grown
            have hcap : cap * i.size ≤ cur.size := by omega
            have hnc : n * i.size ≤ cap * i.size := Nat.mul_le_mul_right _ hn
            have holen : (cur.toList.take (n * i.size)).length = n * i.size := by simp; omega
            have hcells : ∀ j v, (cur.toList.take (n * i.size))[j]? = some v → w.drew.cell? ((⟨c, 0, none⟩ : Addr).add j) = some v := fun j v hj => by
              rw [add_eq, Nat.zero_add]
              have hjlt : j < n * i.size := by have := (List.getElem?_eq_some_iff.1 hj).1; omega
              rw [List.getElem?_take, if_pos hjlt] at hj
              have : cur[j]? = some v := by simpa using hj
              have hc1' : w.drew.heap[c]? = some (.cells cur e0) := hc1
              simp [World.cell?, hc1', this]
            have hr := app_grow (P := P) (w := w) (ty := o.type) (z := z) ht hu hi hz hl hfd (run_firstCells_some w.drew i.size n ⟨c, 0, none⟩ n cap _ holen hcells) hroom hbn'.1 hbn'.2
            have hnum : n'.num = σ.n.num + 1 := Id.succ_num hn'
            have hfr : φ σ.n = none := hH.fresh _ (Nat.le_refl _)
            have hge := grownCap_ge w (n + k) cap e
            have hsz : ((cur.toList.take (n * i.size)).toArray ++ vs.toArray ++ Builtin.zeroCells z.cells (grownCap w (n + k) cap e - (n + k))).size = grownCap w (n + k) cap e * i.size := by
              simp only [Array.size_append, List.size_toArray, len_zeroCells, hzs, holen, hv3]
              rw [← Nat.add_mul, ← Nat.add_mul]
              congr 1; omega
            have hmul : (n + k) * i.size ≤ grownCap w (n + k) cap e * i.size := Nat.mul_le_mul_right _ hge
            rw [Nat.add_mul] at hmul
            have hw' : (w.drew.alloc (.cells ((cur.toList.take (n * i.size)).toArray ++ vs.toArray ++ Builtin.zeroCells z.cells (grownCap w (n + k) cap e - (n + k))) e)).heap = w.heap.push (.cells ((cur.toList.take (n * i.size)).toArray ++ vs.toArray ++ Builtin.zeroCells z.cells (grownCap w (n + k) cap e - (n + k))) e) := rfl
            obtain ⟨h3, h4⟩ := grown_row (m := m) (σ1 := σ.put b none) hH hkill rfl hsub hn' (x := .cells (T.lay xs mm tt) (mm + len8 xs)) e _ hw' rfl rfl rfl hm
              ⟨_, e, by rw [hw', Array.getElem?_push, if_pos rfl], rfl, by rw [hsz, len8_eq]; omega, fun q y hy => by
                rw [T.lay_get] at hy
                by_cases hin : mm ≤ q ∧ q < mm + xs.length
                · rw [if_pos hin] at hy
                  obtain ⟨u, h8, h9⟩ := hv1.get _ y hy
                  refine ⟨by rw [len8_eq]; omega, hv2 y (List.mem_of_getElem? hy), u, ?_, h9.mono (Sub.upd _ hfr)⟩
                  rw [Array.getElem?_append_left (by simp; omega), Array.getElem?_append_right (by simp; omega)]
                  have : q - (cur.toList.take (n * i.size)).toArray.size = q - mm := by rw [List.size_toArray, holen]; omega
                  rw [this]
                  simpa using h8
                · rw [if_neg hin] at hy
                  obtain ⟨h8, h9, u, h10, h11⟩ := hc4 q y hy
                  refine ⟨by omega, h9, u, ?_, h11.mono (Sub.upd _ hfr)⟩
                  rw [Array.getElem?_append_left (by simp; omega), Array.getElem?_append_left (by simp; omega), List.getElem?_toArray, List.getElem?_take, if_pos (by omega)]
                  simpa using h10⟩
            exact ⟨_, _, _, .inl (fin hr), .sliceU _ 0 _ _ _ _ _ (upd_same _ _ _) hge (by rw [hsz]; omega), h3, h4⟩
        · simp only [if_neg hmm] at hne; exact absurd rfl hne
      · rw [if_neg hoff] at hne; exact absurd rfl hne
  · -- nil
    change (if k = 0 then OR.ok .nils σ else if k * i.bytes ≤ 2 ^ 40 ∧ k ≤ 2 ^ 40 then σ.new .no (fun b σ => .ok (.slice b 0 k i.size none) σ) (cellsB xs) else .no) ≠ .no at hne
    change SR m φ σ w (if k = 0 then OR.ok .nils σ else if k * i.bytes ≤ 2 ^ 40 ∧ k ≤ 2 ^ 40 then σ.new .no (fun b σ => .ok (.slice b 0 k i.size none) σ) (cellsB xs) else .no) _
    by_cases hk0 : k = 0
    · rw [if_pos hk0]
      subst hk0
      have hvs : vs = [] := List.eq_nil_of_length_eq_zero (by omega)
      subst hvs
      exact .pure hH .nils (fin (app_room ht hu hi hl hf (by omega) (sb := none) rfl))
    · rw [if_neg hk0] at hne ⊢
      by_cases hbn : k * i.bytes ≤ 2 ^ 40 ∧ k ≤ 2 ^ 40
      · rw [if_pos hbn] at hne ⊢
        obtain ⟨n', hn', he2⟩ := H.new_eq rfl hne
        rw [← he2]
        have := grow (σ1 := σ) (old := []) (old' := []) (sLen := 0) (sCap := 0) rfl hH rfl (fun _ _ h => h) .nil (fun x hx => by simp at hx) (by simp) (by simp [Builtin.firstCells]) (by omega) (by rw [Nat.zero_add]; exact hbn.1) (by omega) (T.lay ([] ++ xs) 0 .nil) n' hn' layOld
        simp only [Nat.zero_add, List.nil_append, List.length_nil] at this
        unfold cellsB
        rw [len8_eq]
        exact this
      · rw [if_neg hbn] at hne; exact absurd rfl hne
end
end Go.Dk
