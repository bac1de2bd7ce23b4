/-
  reg.New as a law.
-/
import Derived.Test.YtfjnaaobbgeoeaaGreatDoorJe
set_option maxRecDepth 100000
set_option linter.all false
namespace Go.Dk.Run
open Go Go.Dk Go.RowKit Go.Proofs
noncomputable section
noncomputable def cL : Code → Code | .seq a _ => a | c => c
noncomputable def cR : Code → Code | .seq _ b => b | c => c
noncomputable def cOps : Code → Array Oper | .region _ ops _ => ops | _ => #[]
noncomputable def cId : Code → Nat | .region id _ _ => id | _ => 0
noncomputable def body7 : Code := Tryz.f7.body.getD .skip
noncomputable def ops7 : Array Oper := cOps (cL (cR body7))
theorem body7_eq : body7 = .seq (cL body7) (.seq (.region (cId (cL (cR body7))) ops7 true) .ret) := by kernel_rfl
theorem first7 : acOf Tryz.prog 12 (cL body7) = some (.ops [⟨some ⟨.d0, .d0, .d0⟩, none, .mv (.c .nilp)⟩]) := by kernel_rfl
abbrev kt7 : KT := .flat [.s]
abbrev nB : List Nat := [98, 105, 110, 97, 114, 121]
abbrev nN : List Nat := [110, 111, 99, 97, 115, 101]
abbrev nR : List Nat := [114, 111, 111, 116]
abbrev z58 : List AV := [.int .i64 (.ofNat 0), .int .i64 (.ofNat 0), .bool false, .bool false, .nilp]
noncomputable def l7 : List AR := [
  ⟨some ⟨.d0, .d0, .d1⟩, none, .mkM kt7⟩,
  ⟨some ⟨.d0, .d0, .d2⟩, none, .build [.str []] [(0, 1, .c (.str nB))]⟩,
  ⟨some ⟨.d0, .d0, .d3⟩, none, .build z58 [(0, 1, .c (.int .i64 (.ofNat 1)))]⟩,
  ⟨none, none, .upd kt7 (.t ⟨.d0, .d0, .d1⟩) (.t ⟨.d0, .d0, .d2⟩) (.t ⟨.d0, .d0, .d3⟩)⟩,
  ⟨some ⟨.d0, .d0, .d4⟩, none, .build [.str []] [(0, 1, .c (.str nN))]⟩,
  ⟨some ⟨.d0, .d0, .d5⟩, none, .build z58 [(0, 1, .c (.int .i64 (.ofNat 2)))]⟩,
  ⟨none, none, .upd kt7 (.t ⟨.d0, .d0, .d1⟩) (.t ⟨.d0, .d0, .d4⟩) (.t ⟨.d0, .d0, .d5⟩)⟩,
  ⟨some ⟨.d0, .d0, .d6⟩, none, .build [.str []] [(0, 1, .c (.str nR))]⟩,
  ⟨some ⟨.d0, .d0, .d7⟩, none, .callF i13 []⟩,
  ⟨some ⟨.d0, .d1, .d0⟩, none, .build z58 [(0, 1, .c (.int .i64 (.ofNat 3))), (1, 1, .c (.int .i64 (.ofNat 3))), (4, 1, .t ⟨.d0, .d0, .d7⟩)]⟩,
  ⟨none, none, .upd kt7 (.t ⟨.d0, .d0, .d1⟩) (.t ⟨.d0, .d0, .d6⟩) (.t ⟨.d0, .d1, .d0⟩)⟩,
  ⟨some ⟨.d0, .d1, .d1⟩, none, .mv (.t ⟨.d0, .d0, .d1⟩)⟩,
  ⟨some ⟨.d0, .d1, .d2⟩, none, .build [.nilm] [(0, 1, .t ⟨.d0, .d1, .d1⟩)]⟩,
  ⟨some ⟨.d0, .d1, .d3⟩, none, .box none (.t ⟨.d0, .d1, .d2⟩)⟩,
  ⟨some ⟨.d0, .d0, .d0⟩, none, .mv (.t ⟨.d0, .d1, .d3⟩)⟩]
theorem ars7 : arsOf Tryz.prog 12 ops7 (ops7.toList.map fun _ => none) ops7.toList = some l7 := by kernel_rfl
/-- Which operations stand ahead of each. -/
noncomputable def pre7 (i : Nat) : List Nat := match ops7[i]? with | some o => (o.after.toList.filter (Region.binds .any)).map (·.on) | none => []
theorem pre7_eq : (List.range 15).map pre7 = [[], [], [], [0, 1, 2], [], [], [0, 4, 5], [], [], [8], [0, 7, 9], [0, 1, 2, 3, 4, 5, 6, 7, 8, 9, 10], [11], [12], [13, 8, 0, 1, 2, 3, 4, 5, 6, 7, 8, 9, 10, 11, 12, 13]] := by kernel_rfl
theorem size7 : ops7.size = 15 := by kernel_rfl
abbrev keyB : AV := .agg [.str nB]
abbrev keyN : AV := .agg [.str nN]
abbrev keyR : AV := .agg [.str nR]
abbrev colB : AV := .agg [ii 1, ii 0, .bool false, .bool false, .nilp]
abbrev colN : AV := .agg [ii 2, ii 0, .bool false, .bool false, .nilp]
abbrev colR (ir : Id) : AV := .agg [ii 3, ii 3, .bool false, .bool false, .ptr ir 0]
/-- What an operation leaves in its slot. -/
def val7 (im ir ib : Id) : Nat → Option (I3 × AV)
  | 0 => some (⟨.d0, .d0, .d1⟩, .map im)
  | 1 => some (⟨.d0, .d0, .d2⟩, keyB)
  | 2 => some (⟨.d0, .d0, .d3⟩, colB)
  | 4 => some (⟨.d0, .d0, .d4⟩, keyN)
  | 5 => some (⟨.d0, .d0, .d5⟩, colN)
  | 7 => some (⟨.d0, .d0, .d6⟩, keyR)
  | 8 => some (⟨.d0, .d0, .d7⟩, .ptr ir 0)
  | 9 => some (⟨.d0, .d1, .d0⟩, colR ir)
  | 11 => some (⟨.d0, .d1, .d1⟩, .map im)
  | 12 => some (⟨.d0, .d1, .d2⟩, .agg [.map im])
  | 13 => some (⟨.d0, .d1, .d3⟩, .ptr ib 0)
  | 14 => some (⟨.d0, .d0, .d0⟩, .ptr ib 0)
  | _ => none
def L7 (d : Nat → Bool) (ir : Id) : List (AV × AV) := (if d 3 then [(keyB, colB)] else []) ++ ((if d 6 then [(keyN, colN)] else []) ++ (if d 10 then [(keyR, colR ir)] else []))
structure F7 (d : Nat → Bool) (im ir ib : Id) (τ : Fr) (σ : H) : Prop where
  cl : ∀ j, j < 15 → d j = true → ∀ k ∈ pre7 j, d k = true
  regs : ∀ j r v, d j = true → val7 im ir ib j = some (r, v) → get3 r τ = v
  m0 : d 0 = true → ∃ l, σ.blk im = some (.map kt7 l) ∧ l.Perm (L7 d ir)
  m8 : d 8 = true → ∃ t m, σ.blk ir = some (.cells t m)
  m13 : d 13 = true → σ.blk ib = some (.cells (T.lay [.map im] 0 .nil) 1) ∧ ir ≠ ib
  n : σ.n.num ≤ 64 + (d 0).toNat + (d 8).toNat + (d 13).toNat
def add7 (d : Nat → Bool) (i : Nat) : Nat → Bool := fun j => d j || decide (j = i)
theorem add7_same (d : Nat → Bool) (i : Nat) : add7 d i i = true := by simp [add7]
theorem add7_ne {d : Nat → Bool} {i j : Nat} (h : j ≠ i) : add7 d i j = d j := by simp [add7, h]
theorem cl_add {d : Nat → Bool} {i : Nat} (h : ∀ j, j < 15 → d j = true → ∀ k ∈ pre7 j, d k = true) (hp : ∀ k ∈ pre7 i, d k = true) : ∀ j, j < 15 → add7 d i j = true → ∀ k ∈ pre7 j, add7 d i k = true := by
  intro j hj hd k hk
  have : d k = true := by
    by_cases e : j = i
    · subst e; exact hp k hk
    · rw [add7_ne e] at hd; exact h j hj hd k hk
  simp [add7, this]
/-- Slots are apart. -/
theorem val7_apart {im ir ib im' ir' ib' : Id} {i j : Nat} {r r' : I3} {v v' : AV} (h : val7 im ir ib i = some (r, v)) (h' : val7 im' ir' ib' j = some (r', v')) (hne : i ≠ j) : r ≠ r' := by
  unfold val7 at h h'
  split at h <;> split at h' <;> first
    | (cases h; done)
    | (cases h'; done)
    | exact absurd rfl hne
    | (cases h; cases h'; decide)
theorem val7_lt {im ir ib : Id} {j : Nat} {p : I3 × AV} (h : val7 im ir ib j = some p) : j < 15 := by
  unfold val7 at h
  split at h <;> first | decide | cases h
/-- Numbers that a slot does not speak of may turn. -/
theorem val7_im {im im' ir ib : Id} {j : Nat} (h : j ≠ 0 ∧ j ≠ 11 ∧ j ≠ 12) : val7 im ir ib j = val7 im' ir ib j := by
  unfold val7; split <;> first | rfl | omega
theorem val7_ir {im ir ir' ib : Id} {j : Nat} (h : j ≠ 8 ∧ j ≠ 9) : val7 im ir ib j = val7 im ir' ib j := by
  unfold val7; split <;> first | rfl | omega
theorem val7_ib {im ir ib ib' : Id} {j : Nat} (h : j ≠ 13 ∧ j ≠ 14) : val7 im ir ib j = val7 im ir ib' j := by
  unfold val7; split <;> first | rfl | omega
theorem toNat_add (d : Nat → Bool) (i j : Nat) : (add7 d i j).toNat = if j = i then 1 else (d j).toNat := by
  by_cases e : j = i
  · subst e; rw [add7_same, if_pos rfl]; rfl
  · rw [add7_ne e, if_neg e]
theorem L7_add {d : Nat → Bool} {i : Nat} {ir : Id} (h : i ≠ 3 ∧ i ≠ 6 ∧ i ≠ 10) : L7 (add7 d i) ir = L7 d ir := by
  unfold L7; rw [add7_ne (Ne.symm h.1), add7_ne (Ne.symm h.2.1), add7_ne (Ne.symm h.2.2)]
section
variable {d : Nat → Bool} {im ir ib : Id} {τ : Fr} {σ : H}
/-- An operation that turns its slot alone. -/
theorem F7.pure (h : F7 d im ir ib τ σ) {i : Nat} {r : I3} {v : AV} (hv : val7 im ir ib i = some (r, v)) (hi : i ≠ 0 ∧ i ≠ 8 ∧ i ≠ 13) (hp : ∀ k ∈ pre7 i, d k = true) : F7 (add7 d i) im ir ib (set3 r v τ) σ := by
  have hL : i ≠ 3 ∧ i ≠ 6 ∧ i ≠ 10 := ⟨fun e => by (subst e; cases hv), fun e => by (subst e; cases hv), fun e => by (subst e; cases hv)⟩
  refine ⟨cl_add h.cl hp, fun j r' v' hd hj => ?_, fun h0 => ?_, fun h0 => ?_, fun h0 => ?_, ?_⟩
  · by_cases e : j = i
    · subst e; rw [hv] at hj; cases hj; rw [get_set3, if_pos rfl]
    · rw [add7_ne e] at hd
      rw [get_set3, if_neg (val7_apart hv hj (Ne.symm e))]; exact h.regs j r' v' hd hj
  · rw [add7_ne (Ne.symm hi.1)] at h0; rw [L7_add hL]; exact h.m0 h0
  · rw [add7_ne (Ne.symm hi.2.1)] at h0; exact h.m8 h0
  · rw [add7_ne (Ne.symm hi.2.2)] at h0; exact h.m13 h0
  · rw [toNat_add, toNat_add, toNat_add, if_neg (Ne.symm hi.1), if_neg (Ne.symm hi.2.1), if_neg (Ne.symm hi.2.2)]; exact h.n
end
end
end Go.Dk.Run
namespace Go.Dk.Run
open Go Go.Dk Go.RowKit Go.Proofs
noncomputable section
theorem pq0 : pre7 0 = [] := by kernel_rfl
theorem pq1 : pre7 1 = [] := by kernel_rfl
theorem pq3 : pre7 3 = [0, 1, 2] := by kernel_rfl
theorem pq6 : pre7 6 = [0, 4, 5] := by kernel_rfl
theorem pq9 : pre7 9 = [8] := by kernel_rfl
theorem pq10 : pre7 10 = [0, 7, 9] := by kernel_rfl
theorem pq11 : pre7 11 = [0, 1, 2, 3, 4, 5, 6, 7, 8, 9, 10] := by kernel_rfl
theorem pq12 : pre7 12 = [11] := by kernel_rfl
theorem pq13 : pre7 13 = [12] := by kernel_rfl
theorem pq14 : pre7 14 = [13, 8, 0, 1, 2, 3, 4, 5, 6, 7, 8, 9, 10, 11, 12, 13] := by kernel_rfl
section
variable [Keep] {d : Nat → Bool} {im ir ib : Id} {τ : Fr} {σ : H}
theorem F7.c3 (h : F7 d im ir ib τ σ) (h1 : d 3 = true) : d 0 = true := h.cl 3 (by decide) h1 0 (by rw [pq3]; simp)
theorem F7.c6 (h : F7 d im ir ib τ σ) (h1 : d 6 = true) : d 0 = true := h.cl 6 (by decide) h1 0 (by rw [pq6]; simp)
theorem F7.c9 (h : F7 d im ir ib τ σ) (h1 : d 9 = true) : d 8 = true := h.cl 9 (by decide) h1 8 (by rw [pq9]; simp)
theorem F7.c10 (h : F7 d im ir ib τ σ) (h1 : d 10 = true) : d 0 = true ∧ d 9 = true := ⟨h.cl 10 (by decide) h1 0 (by rw [pq10]; simp), h.cl 10 (by decide) h1 9 (by rw [pq10]; simp)⟩
theorem F7.c11 (h : F7 d im ir ib τ σ) (h1 : d 11 = true) : d 0 = true ∧ d 8 = true := ⟨h.cl 11 (by decide) h1 0 (by rw [pq11]; simp), h.cl 11 (by decide) h1 8 (by rw [pq11]; simp)⟩
theorem F7.c12 (h : F7 d im ir ib τ σ) (h1 : d 12 = true) : d 0 = true ∧ d 8 = true := h.c11 (h.cl 12 (by decide) h1 11 (by rw [pq12]; simp))
theorem F7.c13 (h : F7 d im ir ib τ σ) (h1 : d 13 = true) : d 0 = true ∧ d 8 = true := h.c12 (h.cl 13 (by decide) h1 12 (by rw [pq13]; simp))
theorem F7.c14 (h : F7 d im ir ib τ σ) (h1 : d 14 = true) : d 13 = true := h.cl 14 (by decide) h1 13 (by rw [pq14]; simp)
theorem F7.mkm (h : F7 d im ir ib τ σ) (hd : d 0 = false) {n' : Id} (hn : σ.n.succ = some n') (hfr : ∀ b x, σ.blk b = some x → b ≠ σ.n) : F7 (add7 d 0) σ.n ir ib (set3 ⟨.d0, .d0, .d1⟩ (.map σ.n) τ) ⟨n', set5 σ.n (some (.map kt7 [])) σ.m⟩ := by
  have no3 : d 3 = false := by cases e : d 3 with | false => rfl | true => rw [h.c3 e] at hd; cases hd
  have no6 : d 6 = false := by cases e : d 6 with | false => rfl | true => rw [h.c6 e] at hd; cases hd
  have no10 : d 10 = false := by cases e : d 10 with | false => rfl | true => rw [(h.c10 e).1] at hd; cases hd
  have no11 : d 11 = false := by cases e : d 11 with | false => rfl | true => rw [(h.c11 e).1] at hd; cases hd
  have no12 : d 12 = false := by cases e : d 12 with | false => rfl | true => rw [(h.c12 e).1] at hd; cases hd
  have no13 : d 13 = false := by cases e : d 13 with | false => rfl | true => rw [(h.c13 e).1] at hd; cases hd
  refine ⟨cl_add h.cl (by rw [pq0]; simp), fun j r v hj hv => ?_, fun _ => ⟨[], ?_, ?_⟩, fun h8 => ?_, fun h13 => ?_, ?_⟩
  · by_cases e : j = 0
    · subst e; cases hv; rw [get_set3, if_pos rfl]
    · rw [add7_ne e] at hj
      rw [get_set3, if_neg (val7_apart (im := im) (ir := ir) (ib := ib) (i := 0) rfl hv (Ne.symm e))]
      refine h.regs j r v hj ?_
      rw [← hv]
      refine val7_im ⟨e, fun e1 => ?_, fun e1 => ?_⟩
      · rw [e1, no11] at hj; cases hj
      · rw [e1, no12] at hj; cases hj
  · rw [H.blk_new, if_pos rfl]
  · unfold L7; rw [add7_ne (by decide), add7_ne (by decide), add7_ne (by decide), no3, no6, no10]; exact .nil
  · rw [add7_ne (by decide)] at h8
    obtain ⟨t, m, hb⟩ := h.m8 h8
    exact ⟨t, m, by rw [H.blk_new, if_neg (Ne.symm (hfr _ _ hb))]; exact hb⟩
  · rw [add7_ne (by decide), no13] at h13; cases h13
  · have := h.n
    have h2 := Id.succ_num hn
    rw [toNat_add, toNat_add, toNat_add, if_pos rfl, if_neg (by decide), if_neg (by decide)]
    rw [hd] at this
    show n'.num ≤ _
    simp at this ⊢; omega
theorem F7.call (h : F7 d im ir ib τ σ) (hd : d 8 = false) {n' : Id} (hn : σ.n.succ = some n') (hfr : ∀ b x, σ.blk b = some x → b ≠ σ.n) (hp : ∀ k ∈ pre7 8, d k = true) : F7 (add7 d 8) im σ.n ib (set3 ⟨.d0, .d0, .d7⟩ (.ptr σ.n 0) τ) ⟨n', set5 σ.n (some (.cells .nil 0)) σ.m⟩ := by
  have no9 : d 9 = false := by cases e : d 9 with | false => rfl | true => rw [h.c9 e] at hd; cases hd
  have no10 : d 10 = false := by cases e : d 10 with | false => rfl | true => rw [(h.c10 e).2] at no9; cases no9
  have no13 : d 13 = false := by cases e : d 13 with | false => rfl | true => rw [(h.c13 e).2] at hd; cases hd
  refine ⟨cl_add h.cl hp, fun j r v hj hv => ?_, fun h0 => ?_, fun _ => ⟨.nil, 0, by rw [H.blk_new, if_pos rfl]⟩, fun h13 => ?_, ?_⟩
  · by_cases e : j = 8
    · subst e; cases hv; rw [get_set3, if_pos rfl]
    · rw [add7_ne e] at hj
      rw [get_set3, if_neg (val7_apart (im := im) (ir := ir) (ib := ib) (i := 8) rfl hv (Ne.symm e))]
      refine h.regs j r v hj ?_
      rw [← hv]
      refine val7_ir ⟨e, fun e1 => ?_⟩
      rw [e1, no9] at hj; cases hj
  · rw [add7_ne (by decide)] at h0
    obtain ⟨l, h1, h2⟩ := h.m0 h0
    refine ⟨l, by rw [H.blk_new, if_neg (Ne.symm (hfr _ _ h1))]; exact h1, ?_⟩
    have : L7 (add7 d 8) σ.n = L7 d ir := by unfold L7; rw [add7_ne (by decide), add7_ne (by decide), add7_ne (by decide), no10]; rfl
    rw [this]; exact h2
  · rw [add7_ne (by decide), no13] at h13; cases h13
  · have := h.n
    have h2 := Id.succ_num hn
    rw [toNat_add, toNat_add, toNat_add, if_neg (by decide), if_pos rfl, if_neg (by decide)]
    rw [hd] at this
    show n'.num ≤ _
    simp at this ⊢; omega
theorem F7.box (h : F7 d im ir ib τ σ) (hd : d 13 = false) (h12 : d 12 = true) {n' : Id} (hn : σ.n.succ = some n') (hfr : ∀ b x, σ.blk b = some x → b ≠ σ.n) (hp : ∀ k ∈ pre7 13, d k = true) : F7 (add7 d 13) im ir σ.n (set3 ⟨.d0, .d1, .d3⟩ (.ptr σ.n 0) τ) ⟨n', set5 σ.n (some (.cells (T.lay [.map im] 0 .nil) 1)) σ.m⟩ := by
  have no14 : d 14 = false := by cases e : d 14 with | false => rfl | true => rw [h.c14 e] at hd; cases hd
  refine ⟨cl_add h.cl hp, fun j r v hj hv => ?_, fun h0 => ?_, fun h8 => ?_, fun _ => ⟨by rw [H.blk_new, if_pos rfl], ?_⟩, ?_⟩
  · by_cases e : j = 13
    · subst e; cases hv; rw [get_set3, if_pos rfl]
    · rw [add7_ne e] at hj
      rw [get_set3, if_neg (val7_apart (im := im) (ir := ir) (ib := ib) (i := 13) rfl hv (Ne.symm e))]
      refine h.regs j r v hj ?_
      rw [← hv]
      refine val7_ib ⟨e, fun e1 => ?_⟩
      rw [e1, no14] at hj; cases hj
  · rw [add7_ne (by decide)] at h0
    obtain ⟨l, h1, h2⟩ := h.m0 h0
    exact ⟨l, by rw [H.blk_new, if_neg (Ne.symm (hfr _ _ h1))]; exact h1, by rw [L7_add (by decide)]; exact h2⟩
  · rw [add7_ne (by decide)] at h8
    obtain ⟨t, m, hb⟩ := h.m8 h8
    exact ⟨t, m, by rw [H.blk_new, if_neg (Ne.symm (hfr _ _ hb))]; exact hb⟩
  · obtain ⟨t, m, hb⟩ := h.m8 (h.c12 h12).2
    exact hfr _ _ hb
  · have := h.n
    have h2 := Id.succ_num hn
    rw [toNat_add, toNat_add, toNat_add, if_neg (by decide), if_neg (by decide), if_pos rfl]
    rw [hd] at this
    show n'.num ≤ _
    simp at this ⊢; omega
theorem keyEq_str (a b : List Nat) : keyEq kt7 (.agg [.str a]) (.agg [.str b]) = some (seq8 a b) := by
  show (Option.rec (motive := fun _ => Option Bool) none (fun e => ite8 e (some true) (ite8 (Nat.beq 0 0) (some false) none)) (some (seq8 a b)) : Option Bool) = _
  cases seq8 a b <;> rfl
theorem keyAt_noneI {kt : KT} {k : AV} : ∀ {l : List (AV × AV)}, (∀ p ∈ l, keyEq kt k p.1 = some false) → keyAt kt k l = some none
  | [], _ => rfl
  | p :: l, h => by
    show (match keyEq kt k p.1 with | some true => some (some p.2) | some false => keyAt kt k l | none => none) = _
    rw [h p (by simp), keyAt_noneI fun q hq => h q (by simp [hq])]
/-- An entry more. -/
theorem F7.ins (h : F7 d im ir ib τ σ) {i : Nat} {k v : AV} {l : List (AV × AV)} (hi : i = 3 ∨ i = 6 ∨ i = 10) (hd : d i = false) (hp : ∀ k ∈ pre7 i, d k = true) (hl : σ.blk im = some (.map kt7 l)) (hlp : l.Perm (L7 d ir)) (hr : d 8 = true → ir ≠ im) (hb : d 13 = true → ib ≠ im)
    (hL : (L7 d ir ++ [(k, v)]).Perm (L7 (add7 d i) ir)) (hat : keyAt kt7 k l = some none) : F7 (add7 d i) im ir ib τ (σ.put im (some (.map kt7 (keyPut kt7 k v l)))) := by
  have hne : i ≠ 0 ∧ i ≠ 8 ∧ i ≠ 13 := by omega
  refine ⟨cl_add h.cl hp, fun j r v hj hv => ?_, fun h0 => ⟨_, by rw [H.blk_put, if_pos rfl], ?_⟩, fun h8 => ?_, fun h13 => ?_, ?_⟩
  · by_cases e : j = i
    · subst e; rcases hi with rfl | rfl | rfl <;> cases hv
    · rw [add7_ne e] at hj; exact h.regs j r v hj hv
  · skip
    rw [keyPut_new hat]
    exact (hlp.append_right _).trans hL
  · rw [add7_ne (Ne.symm hne.2.1)] at h8
    obtain ⟨t, m, h1⟩ := h.m8 h8
    exact ⟨t, m, by rw [H.blk_put, if_neg (Ne.symm (hr h8))]; exact h1⟩
  · rw [add7_ne (Ne.symm hne.2.2)] at h13
    obtain ⟨h1, h2⟩ := h.m13 h13
    exact ⟨by rw [H.blk_put, if_neg (Ne.symm (hb h13))]; exact h1, h2⟩
  · rw [toNat_add, toNat_add, toNat_add, if_neg (Ne.symm hne.1), if_neg (Ne.symm hne.2.1), if_neg (Ne.symm hne.2.2)]; exact h.n
end
end
end Go.Dk.Run
namespace Go.Dk.Run
open Go Go.Dk Go.RowKit Go.Proofs
noncomputable section
def FTg : F3 Ent := set3 i13 (.law (lawN g13)) (rep3 .none)
theorem okFTg [Keep] : ∀ k, EntOk Tryz.prog k (get3 k FTg) := ok_set ok_nil law13
theorem succ_ok {i : Id} (h : i.num < 4096) : ∃ j, i.succ = some j := by
  cases hs : i.succ with
  | some j => exact ⟨j, rfl⟩
  | none =>
    exfalso
    obtain ⟨a, b, c, d, e⟩ := i
    simp only [Id.succ] at hs
    rcases D8.next_spec e (fun e => some (⟨a, b, c, d, e⟩ : Id)) _ with ⟨x, hx, h1⟩ | ⟨he, h1⟩
    · rw [h1] at hs; cases hs
    rw [h1] at hs
    rcases D8.next_spec d (fun d => some (⟨a, b, c, d, .d0⟩ : Id)) _ with ⟨x, hx, h2⟩ | ⟨hd, h2⟩
    · rw [h2] at hs; cases hs
    rw [h2] at hs
    rcases D8.next_spec c (fun c => some (⟨a, b, c, .d0, .d0⟩ : Id)) _ with ⟨x, hx, h3⟩ | ⟨hc, h3⟩
    · rw [h3] at hs; cases hs
    rw [h3] at hs
    rcases D8.next_spec b (fun b => some (⟨a, b, .d0, .d0, .d0⟩ : Id)) _ with ⟨x, hx, h4⟩ | ⟨hb, h4⟩
    · rw [h4] at hs; cases hs
    rw [h4] at hs
    rcases D8.next_spec a (fun a => some (⟨a, .d0, .d0, .d0, .d0⟩ : Id)) _ with ⟨x, hx, h5⟩ | ⟨ha, h5⟩
    · rw [h5] at hs; cases hs
    simp only [Id.num] at h; omega
section
variable [Keep] {w0 : World}
def Inv7 (w0 : World) (d : Nat → Bool) (a : Act) (w : World) : Prop := ∃ φ τ σ im ir ib, TR φ 12 τ a ∧ HR φ σ w ∧ Env w0 w ∧ F7 d im ir ib τ σ
theorem op7 {Q : Exit → Act → World → Prop} {K : Act → World → Prop} {a : Act} {w : World} {d : Nat → Bool} {i : Nat} {o : Oper} {ao : AO} {dst : Option I3} {φ : Emb} {τ : Fr} {σ σ' : H} {v : AV} {im ir ib : Id} (hi : ops7[i]? = some o) (hop : arOf Tryz.prog 12 ops7 none o = some ⟨dst, none, ao⟩) (hT : TR φ 12 τ a) (hH : HR φ σ w) (hE : Env w0 w)
    (hs : AR.step (callE FTg (exec FTg 5)) ⟨dst, none, ao⟩ σ.n τ σ = some (v, σ')) (hF : F7 (add7 d i) im ir ib (dput dst v τ) σ') (hK : ∀ a' w', Inv7 w0 (add7 d i) a' w' → K a' w') : wpOp Tryz.prog ops7 Q i K a w := by
  unfold wpOp
  rw [hi]
  simp only
  obtain ⟨hw, _, hd, hN⟩ := want_R hT hop
  have key := step_R (m := From σ.n.num) (Q := Q) (K := K) (calls_R mixed okFTg 5) hop hT hH ⟨Nat.le_refl _, fun j hj => by cases hj⟩ (fun b h => h) hs fun φ1 v' w1 g1 g2 g3 => hK _ _ ⟨φ1, _, σ', im, ir, ib, (hT.mono g3.ext).put dst o.dst hd hN g1, g2, hE.fm g3, hF⟩
  rw [hw, if_pos (show want none τ = true from rfl)] at key ⊢
  exact .inl key
theorem arsOf_get {ops : Array Oper} {N : Nat} {P : Program} : ∀ {ol : List Oper} {l : List AR} (i : Nat) {o : Oper}, arsOf P N ops (ol.map fun _ => none) ol = some l → ol[i]? = some o → ∃ ar, l[i]? = some ar ∧ arOf P N ops none o = some ar
  | [], _, i, _, _, h2 => by simp at h2
  | o1 :: ol, l, i, o, h1, h2 => by
    simp only [List.map_cons] at h1
    unfold arsOf at h1
    split at h1
    · rename_i ar r g1 g2
      cases h1
      cases i with
      | zero => simp at h2; subst h2; exact ⟨ar, rfl, g1⟩
      | succ i =>
        simp at h2
        obtain ⟨ar', g3, g4⟩ := arsOf_get i g2 h2
        exact ⟨ar', by simpa using g3, g4⟩
    · cases h1
theorem ar7 {i : Nat} {o : Oper} (hi : ops7[i]? = some o) : ∃ ar, l7[i]? = some ar ∧ arOf Tryz.prog 12 ops7 none o = some ar := arsOf_get i ars7 (by simpa using hi)
theorem step_mk {cf : I3 → List AV → H → Option (AV × H)} {τ : Fr} {σ : H} {base : Id} {dst : Option I3} {kt : KT} {n' : Id} (hn : σ.n.succ = some n') : AR.step cf ⟨dst, none, .mkM kt⟩ base τ σ = some (.map σ.n, ⟨n', set5 σ.n (some (.map kt [])) σ.m⟩) := by
  refine step_ok ?_
  show Option.rec (motive := fun _ => OR) .no (fun n' => .ok (.map σ.n) ⟨n', set5 σ.n (some (.map kt [])) σ.m⟩) σ.n.succ = _
  rw [hn]
theorem step_box {cf : I3 → List AV → H → Option (AV × H)} {τ : Fr} {σ : H} {base : Id} {dst : Option I3} {x : AX} {l : List AV} {n' : Id} (hx : ev τ x = .agg l) (hn : σ.n.succ = some n') : AR.step cf ⟨dst, none, .box none x⟩ base τ σ = some (.ptr σ.n 0, ⟨n', set5 σ.n (some (cellsB l)) σ.m⟩) := by
  refine step_ok ?_
  show hBox none x base τ σ = _
  unfold hBox
  rw [hx]
  show Option.rec (motive := fun _ => OR) .no (fun n' => .ok (.ptr σ.n 0) ⟨n', set5 σ.n (some (cellsB l)) σ.m⟩) σ.n.succ = _
  rw [hn]
variable {Q : Exit → Act → World → Prop} {K : Act → World → Prop} {a : Act} {w : World} {d : Nat → Bool}
theorem all7 {i : Nat} (hlt : i < 15) (hd : d i = false) (hp : ∀ k ∈ pre7 i, d k = true) (hI : Inv7 w0 d a w) (hK : ∀ a' w', Inv7 w0 (add7 d i) a' w' → K a' w') : wpOp Tryz.prog ops7 Q i K a w := by
  obtain ⟨φ, τ, σ, im, ir, ib, hT, hH, hE, hF⟩ := hI
  obtain ⟨o, ho⟩ : ∃ o, ops7[i]? = some o := ⟨_, Array.getElem?_eq_getElem (by rw [size7]; exact hlt)⟩
  obtain ⟨ar, har, hop⟩ := ar7 ho
  have hfr : ∀ b x, σ.blk b = some x → b ≠ σ.n := fun b x hb e => by
    obtain ⟨c, z, h1, _⟩ := hH.blk b x hb
    rw [e, hH.fresh _ (Nat.le_refl _)] at h1; cases h1
  obtain ⟨n', hn⟩ := succ_ok (i := σ.n) (by have := hF.n; have h1 := Bool.toNat_le (d 0); have h2 := Bool.toNat_le (d 8); have h3 := Bool.toNat_le (d 13); omega)
  have hrm : d 0 = true → d 8 = true → ir ≠ im := fun h0 h8 e => by
    obtain ⟨l, h1, _⟩ := hF.m0 h0
    obtain ⟨t, m, h2⟩ := hF.m8 h8
    rw [e, h1] at h2; cases h2
  have hbm : d 0 = true → d 13 = true → ib ≠ im := fun h0 h8 e => by
    obtain ⟨l, h1, _⟩ := hF.m0 h0
    have h2 := (hF.m13 h8).1
    rw [e, h1] at h2; cases h2
  have pure : ∀ {r : I3} {v : AV} {ao : AO}, ar = ⟨some r, none, ao⟩ → val7 im ir ib i = some (r, v) → i ≠ 0 ∧ i ≠ 8 ∧ i ≠ 13 → AR.step (callE FTg (exec FTg 5)) ⟨some r, none, ao⟩ σ.n τ σ = some (v, σ) → wpOp Tryz.prog ops7 Q i K a w := fun {r v ao} e1 hv hi hs => by
    subst e1; exact op7 ho hop hT hH hE hs (hF.pure hv hi hp) hK
  have ins : ∀ {rk rv : I3} {s : List Nat} {c : AV}, ar = ⟨none, none, .upd kt7 (.t ⟨.d0, .d0, .d1⟩) (.t rk) (.t rv)⟩ → (i = 3 ∨ i = 6 ∨ i = 10) → d 0 = true → get3 rk τ = .agg [.str s] → get3 rv τ = c → seq8 s s = true → (∀ p ∈ L7 d ir, ∃ s2, p.1 = .agg [.str s2] ∧ seq8 s s2 = false) → (L7 d ir ++ [((AV.agg [.str s] : AV), c)]).Perm (L7 (add7 d i) ir) → wpOp Tryz.prog ops7 Q i K a w := fun {rk rv s c} e1 hi h0 hk hv hss hno hL => by
    subst e1
    obtain ⟨l, h1, h2⟩ := hF.m0 h0
    have hat : keyAt kt7 (.agg [.str s]) l = some none := keyAt_noneI fun p hp => by
      obtain ⟨s2, e2, e3⟩ := hno p (h2.mem_iff.1 hp)
      rw [e2, keyEq_str, e3]
    have hs : AR.step (callE FTg (exec FTg 5)) ⟨none, none, .upd kt7 (.t ⟨.d0, .d0, .d1⟩) (.t rk) (.t rv)⟩ σ.n τ σ = some (uv, σ.put im (some (.map kt7 (keyPut kt7 (.agg [.str s]) c l)))) := by
      have := step_upd (cf := callE FTg (exec FTg 5)) (base := σ.n) (d := none) (τ := τ) (σ := σ) (kt := kt7) (m := .t ⟨.d0, .d0, .d1⟩) (i := .t rk) (x := .t rv) (b := im) (l := l) (r := none) (by show keyEq kt7 (get3 rk τ) (get3 rk τ) = _; rw [hk, keyEq_str, hss]) (hF.regs 0 _ _ h0 rfl) h1 (by show keyAt kt7 (get3 rk τ) l = _; rw [hk]; exact hat)
      rwa [show ev τ (.t rk) = _ from hk, show ev τ (.t rv) = _ from hv] at this
    exact op7 ho hop hT hH hE hs (hF.ins hi hd hp h1 h2 (hrm h0) (hbm h0) hL hat) hK
  have hi15 : i = 0 ∨ i = 1 ∨ i = 2 ∨ i = 3 ∨ i = 4 ∨ i = 5 ∨ i = 6 ∨ i = 7 ∨ i = 8 ∨ i = 9 ∨ i = 10 ∨ i = 11 ∨ i = 12 ∨ i = 13 ∨ i = 14 := by omega
  rcases hi15 with rfl | rfl | rfl | rfl | rfl | rfl | rfl | rfl | rfl | rfl | rfl | rfl | rfl | rfl | rfl
  · cases har; exact op7 ho hop hT hH hE (step_mk hn) (hF.mkm hd hn hfr) hK
  · cases har; exact pure rfl rfl (by decide) rfl
  · cases har; exact pure rfl rfl (by decide) rfl
  · cases har
    have h0 := hp 0 (by rw [pq3]; simp)
    refine ins (s := nB) rfl (.inl rfl) h0 (hF.regs 1 _ _ (hp 1 (by rw [pq3]; simp)) rfl) (hF.regs 2 _ _ (hp 2 (by rw [pq3]; simp)) rfl) rfl (fun p hp => ?_) ?_
    · unfold L7 at hp; rw [hd] at hp
      cases h6 : d 6 <;> cases h10 : d 10 <;> rw [h6, h10] at hp <;> simp at hp
      · subst hp; exact ⟨nR, rfl, rfl⟩
      · subst hp; exact ⟨nN, rfl, rfl⟩
      · rcases hp with rfl | rfl
        · exact ⟨nN, rfl, rfl⟩
        · exact ⟨nR, rfl, rfl⟩
    · unfold L7; rw [add7_same, add7_ne (by decide), add7_ne (by decide), hd]
      exact List.perm_append_comm
  · cases har; exact pure rfl rfl (by decide) rfl
  · cases har; exact pure rfl rfl (by decide) rfl
  · cases har
    have h0 := hp 0 (by rw [pq6]; simp)
    refine ins (s := nN) rfl (.inr (.inl rfl)) h0 (hF.regs 4 _ _ (hp 4 (by rw [pq6]; simp)) rfl) (hF.regs 5 _ _ (hp 5 (by rw [pq6]; simp)) rfl) rfl (fun p hp => ?_) ?_
    · unfold L7 at hp; rw [hd] at hp
      cases h6 : d 3 <;> cases h10 : d 10 <;> rw [h6, h10] at hp <;> simp at hp
      · subst hp; exact ⟨nR, rfl, rfl⟩
      · subst hp; exact ⟨nB, rfl, rfl⟩
      · rcases hp with rfl | rfl
        · exact ⟨nB, rfl, rfl⟩
        · exact ⟨nR, rfl, rfl⟩
    · unfold L7; rw [add7_same, add7_ne (by decide), add7_ne (by decide), hd]
      rw [List.append_assoc]
      exact List.Perm.append_left _ List.perm_append_comm
  · cases har; exact pure rfl rfl (by decide) rfl
  · cases har
    have hc : callE FTg (exec FTg 5) i13 [] σ = some (.ptr σ.n 0, ⟨n', set5 σ.n (some (.cells .nil 0)) σ.m⟩) := lawN_some (g := g13) (args := []) (x := .cells .nil 0) (mk := fun b => .ptr b 0) rfl hn
    exact op7 ho hop hT hH hE (step_call rfl hc) (hF.call hd hn hfr hp) hK
  · cases har
    have h8 := hF.regs 8 _ _ (hp 8 (by rw [pq9]; simp)) rfl
    refine pure rfl rfl (by decide) ?_
    rw [← sets_eq [(⟨.d0, .d0, .d7⟩, .ptr ir 0)] τ (by simp [h8])]; rfl
  · cases har
    have h0 := hp 0 (by rw [pq10]; simp)
    refine ins (s := nR) rfl (.inr (.inr rfl)) h0 (hF.regs 7 _ _ (hp 7 (by rw [pq10]; simp)) rfl) (hF.regs 9 _ _ (hp 9 (by rw [pq10]; simp)) rfl) rfl (fun p hp => ?_) ?_
    · unfold L7 at hp; rw [hd] at hp
      cases h6 : d 3 <;> cases h10 : d 6 <;> rw [h6, h10] at hp <;> simp at hp
      · subst hp; exact ⟨nN, rfl, rfl⟩
      · subst hp; exact ⟨nB, rfl, rfl⟩
      · rcases hp with rfl | rfl
        · exact ⟨nB, rfl, rfl⟩
        · exact ⟨nN, rfl, rfl⟩
    · unfold L7; rw [add7_same, add7_ne (by decide), add7_ne (by decide), hd]
      simp
  · cases har
    have h0 := hF.regs 0 _ _ (hp 0 (by rw [pq11]; simp)) rfl
    refine pure rfl rfl (by decide) ?_
    rw [← sets_eq [(⟨.d0, .d0, .d1⟩, .map im)] τ (by simp [h0])]; rfl
  · cases har
    have h0 := hF.regs 11 _ _ (hp 11 (by rw [pq12]; simp)) rfl
    refine pure rfl rfl (by decide) ?_
    rw [← sets_eq [(⟨.d0, .d1, .d1⟩, .map im)] τ (by simp [h0])]; rfl
  · cases har
    have h12 := hp 12 (by rw [pq13]; simp)
    have h0 := hF.regs 12 _ _ h12 rfl
    exact op7 ho hop hT hH hE (step_box h0 hn) (hF.box hd h12 hn hfr hp) hK
  · cases har
    have h0 := hF.regs 13 _ _ (hp 13 (by rw [pq14]; simp)) rfl
    refine pure rfl rfl (by decide) ?_
    rw [← sets_eq [(⟨.d0, .d1, .d3⟩, .ptr ib 0)] τ (by simp [h0])]; rfl
end
end
end Go.Dk.Run
namespace Go.Dk.Run
open Go Go.Dk Go.RowKit Go.Proofs
noncomputable section
theorem pre_lt : ((List.range 15).all fun j => (pre7 j).all fun k => decide (k < j)) = true := by kernel_rfl
theorem pre_lt' {j k : Nat} (hj : j < 15) (hk : k ∈ pre7 j) : k < j := by
  have := List.all_eq_true.1 (List.all_eq_true.1 pre_lt j (by simpa using hj)) k hk
  simpa using this
section
variable [Keep] {w0 : World}
theorem any7 {Q : Exit → Act → World → Prop} (hQ : ∀ d a w, (∀ j, j < 15 → d j = true) → Inv7 w0 d a w → Q .normal a w) :
    ∀ (fuel : Nat) (listed : Array Bool) (a : Act) (w : World), listed.size = 15 → Inv7 w0 (fun j => listed.getD j false) a w → Row.cnt (fun j => listed.getD j false) 15 ≤ fuel → wpAny Tryz.prog .any ops7 Q fuel listed a w := by
  have getD_eq : ∀ (listed : Array Bool) (b : Bool) j, j < listed.size → listed.getD j b = listed.getD j false := fun listed b j hj => by simp [Array.getD, hj]
  have rd : ∀ (listed : Array Bool) i, listed.size = 15 → i ∈ Region.ready .any ops7 listed → i < 15 ∧ listed.getD i false = false ∧ ∀ k ∈ pre7 i, listed.getD k false = true := by
    intro listed i hs hi
    unfold Region.ready at hi
    rw [List.mem_filter, List.mem_range, size7] at hi
    obtain ⟨h1, h2⟩ := hi
    rw [Bool.and_eq_true] at h2
    refine ⟨h1, ?_, fun k hk => ?_⟩
    · rw [← getD_eq listed true i (by omega)]; simpa using h2.1
    · have h3 := h2.2
      have ho : ops7[i]? = some (ops7[i]'(by rw [size7]; exact h1)) := Array.getElem?_eq_getElem _
      rw [ho] at h3
      simp only [Option.map_some, Option.getD_some] at h3
      rw [← Array.all_toList, List.all_eq_true] at h3
      unfold pre7 at hk
      rw [ho] at hk
      obtain ⟨e, he, rfl⟩ := List.mem_map.1 hk
      obtain ⟨he1, he2⟩ := List.mem_filter.1 he
      have := h3 e he1
      rw [he2] at this
      simpa using this
  have nordy : ∀ (listed : Array Bool), listed.size = 15 → Region.ready .any ops7 listed = [] → ∀ j, j < 15 → listed.getD j false = true := by
    intro listed hs hr j
    induction j using Nat.strongRecOn with
    | ind j ih =>
      intro hj
      cases hl : listed.getD j false with
      | true => rfl
      | false =>
        exfalso
        have : j ∈ Region.ready .any ops7 listed := by
          unfold Region.ready
          rw [List.mem_filter, List.mem_range, size7]
          refine ⟨hj, ?_⟩
          have ho : ops7[j]? = some (ops7[j]'(by rw [size7]; exact hj)) := Array.getElem?_eq_getElem _
          rw [Bool.and_eq_true]
          refine ⟨by rw [getD_eq listed true j (by omega), hl]; rfl, ?_⟩
          rw [ho]
          simp only [Option.map_some, Option.getD_some]
          rw [← Array.all_toList, List.all_eq_true]
          intro e he
          cases hb : Region.binds .any e with
          | false => rfl
          | true =>
            have hk : e.on ∈ pre7 j := by
              unfold pre7; rw [ho]
              exact List.mem_map.2 ⟨e, List.mem_filter.2 ⟨he, hb⟩, rfl⟩
            have hlt := pre_lt' hj hk
            rw [ih e.on hlt (by omega)]; rfl
        rw [hr] at this; cases this
  intro fuel
  induction fuel with
  | zero =>
    intro listed a w hs hI hc
    have hall := Row.cnt_zero (Nat.le_zero.1 hc)
    refine ⟨?_, hQ _ a w hall hI⟩
    cases hr : Region.ready .any ops7 listed with
    | nil => rfl
    | cons i r =>
      have := rd listed i hs (by rw [hr]; simp)
      rw [hall i this.1] at this; cases this.2.1
  | succ fuel ih =>
    intro listed a w hs hI hc
    refine ⟨fun hr => hQ _ a w (nordy listed hs hr) hI, fun i hi => ?_⟩
    obtain ⟨h1, h2, h3⟩ := rd listed i hs hi
    have e0 : (fun j => (listed.setIfInBounds i true).getD j false) = add7 (fun j => listed.getD j false) i := by
      funext j
      show (listed.setIfInBounds i true).getD j false = (listed.getD j false || decide (j = i))
      rw [Array.getD_eq_getD_getElem?, Array.getD_eq_getD_getElem?, Array.getElem?_setIfInBounds]
      by_cases e : i = j
      · subst e; rw [if_pos rfl, if_pos (by omega)]; simp
      · rw [if_neg e, decide_eq_false (fun e' => e e'.symm), Bool.or_false]
    refine all7 h1 h2 h3 hI fun a' w' hI' => ih _ a' w' (by simpa using hs) (by rw [e0]; exact hI') ?_
    rw [e0]
    have := (Row.cnt_add (S := fun j => listed.getD j false) h2 (k := 15)).2 h1
    have e1 : Row.cnt (add7 (fun j => listed.getD j false) i) 15 + 1 = Row.cnt (fun j => listed.getD j false) 15 := this
    omega
end
theorem rs7 : rvsOf Tryz.prog Tryz.f7.results.toList = some [.tmp ⟨.d0, .d0, .d0⟩] := by kernel_rfl
theorem body7s : Tryz.f7.body = some body7 := by kernel_rfl
theorem nt7 : Tryz.f7.ntmps = 12 := by kernel_rfl
/-- What reg.New does. -/
theorem new7 {φ : Emb} {w : World} (hG : GOk φ) : Calls Tryz.prog 7 #[] w fun e w' => ∃ φ' σ' im ir ib l t m v', e = .returned v' ∧ VR φ' (.ptr ib 0) v' ∧ @HR (kw w none []) φ' σ' w' ∧ Env w w' ∧ σ'.blk im = some (.map kt7 l) ∧ l.Perm [(keyB, colB), (keyN, colN), (keyR, colR ir)] ∧ σ'.blk ir = some (.cells t m) ∧ σ'.blk ib = some (.cells (T.lay [.map im] 0 .nil) 1) ∧ ir ≠ ib := by
  letI : Keep := kw w none []
  refine calls_of_wp Tryz.func7 body7s ?_
  have hT : TR (glob φ) 12 emptyF { tmps := #[] ++ Array.replicate (Tryz.f7.ntmps - (#[] : Array Value).size) undef, defers := [] } := by
    rw [nt7]
    exact enter_TR (np := 0) (nt := 12) (args := []) (args' := []) (by decide) (by decide) rfl (glob_GOk hG) .nil
  have hH : HR (glob φ) σE w := HR.empty fun k o h => kw_old h
  rw [body7_eq]
  refine wp_seq ?_
  refine (WpA.execN (pins := []) mixed okFTg (n := 4) (R := fun τ σ => σ = σE) (Xn.ops (Rn.cons rfl (Rn.nil rfl))) ?_ : WpA Tryz.prog 12 w [] (.ops [⟨some ⟨.d0, .d0, .d0⟩, none, .mv (.c .nilp)⟩]) _ emptyF σE) (cL body7) first7 _ _ _ hT hH (Env.refl w) (fun p hp => by cases hp)
  rintro τ1 _ rfl φ1 a1 w1 hT1 hH1 hE1 _
  show Code.wp Tryz.prog (.seq (.region (cId (cL (cR body7))) ops7 true) .ret) _ a1 w1
  refine wp_seq (wp_region_any mixed ?_)
  rw [size7]
  refine any7 (w0 := w) (fun d a w2 hall hI => ?_) 15 _ a1 _ (by simp) ⟨φ1, τ1, σE, id64, id64, id64, hT1, hH1.drew, ⟨hE1.os, hE1.tape, hE1.output, hE1.size⟩, ?_⟩ (Row.cnt_le _ 15)
  · obtain ⟨φ', τ, σ, im, ir, ib, h1, h2, h3, h4⟩ := hI
    refine wp_ret ?_
    obtain ⟨l, h5, h6⟩ := h4.m0 (hall 0 (by decide))
    obtain ⟨t, m, h7⟩ := h4.m8 (hall 8 (by decide))
    obtain ⟨h8, h9⟩ := h4.m13 (hall 13 (by decide))
    obtain ⟨_, v', h10, h11⟩ := results_R (v := .ptr ib 0) (σ' := σ) h1 h2 rs7 (by rw [resX_one, h4.regs 14 _ _ (hall 14 (by decide)) rfl])
    refine ⟨h1.defers, v', h10, φ', σ, im, ir, ib, l, t, m, v', rfl, h11, h2, h3, h5, ?_, h7, h8, h9⟩
    unfold L7 at h6
    rw [hall 3 (by decide), hall 6 (by decide), hall 10 (by decide)] at h6
    exact h6
  · have hno : ∀ j, (Array.replicate 15 false).getD j false = false := fun j => by
      rw [Array.getD_eq_getD_getElem?, Array.getElem?_replicate]
      split <;> rfl
    refine ⟨fun j hj hd => ?_, fun j r v hd => ?_, fun hd => ?_, fun hd => ?_, fun hd => ?_, ?_⟩
    · simp only [hno] at hd; cases hd
    · simp only [hno] at hd; cases hd
    · simp only [hno] at hd; cases hd
    · simp only [hno] at hd; cases hd
    · simp only [hno] at hd; cases hd
    · simp only [hno]; decide
end
end Go.Dk.Run
namespace Go.Dk.Run
open Go Go.Dk Go.RowKit Go.Proofs
noncomputable section
abbrev i7 : I3 := ⟨.d0, .d0, .d7⟩
def reg3 (ir : Id) : List (AV × AV) := [(keyB, colB), (keyN, colN), (keyR, colR ir)]
def f7 (args : List AV) (σ : H) : Option (AV × H) := match args with
  | [] => σ.new none (fun ir σ1 => σ1.new none (fun im σ2 => σ2.new none (fun ib σ3 => some (.ptr ib 0, σ3)) (.cells (T.lay [.map im] 0 .nil) 1)) (.map kt7 (reg3 ir))) (.cells .nil 0)
  | _ => none
theorem Free.str (l : List Nat) : Free (.str l) := fun _ _ v h => by cases h with | str _ h => exact .str _ h
theorem Free.nilp : Free .nilp := fun _ _ v h => by cases h; exact .nilp
/-- The last one's table renamed. -/
def rnC (n0 : Id) (v : AV) : AV := match v with | .agg [a, b, c, d, .ptr _ 0] => .agg [a, b, c, d, .ptr n0 0] | v => v
theorem colB_free : Free colB := Free.agg fun x hx => by
  simp only [List.mem_cons, List.not_mem_nil, or_false] at hx
  rcases hx with rfl | rfl | rfl | rfl | rfl
  · exact Free.int _ _
  · exact Free.int _ _
  · exact Free.bool _
  · exact Free.bool _
  · exact Free.nilp
theorem colN_free : Free colN := Free.agg fun x hx => by
  simp only [List.mem_cons, List.not_mem_nil, or_false] at hx
  rcases hx with rfl | rfl | rfl | rfl | rfl
  · exact Free.int _ _
  · exact Free.int _ _
  · exact Free.bool _
  · exact Free.bool _
  · exact Free.nilp
theorem colR_ren {φ φ' : Emb} {ir n0 : Id} {v : Value} (e : φ' n0 = φ ir) (h : VR φ (colR ir) v) : VR φ' (colR n0) v := by
  cases h with
  | agg _ l' h h1 =>
  cases h with
  | cons _ v1 _ _ a1 t1 =>
  cases t1 with
  | cons _ v2 _ _ a2 t2 =>
  cases t2 with
  | cons _ v3 _ _ a3 t3 =>
  cases t3 with
  | cons _ v4 _ _ a4 t4 =>
  cases t4 with
  | cons _ v5 _ _ a5 t5 =>
  cases t5
  cases a5 with
  | ptr _ _ c z hφ =>
  exact .agg _ [v1, v2, v3, v4, _] (.cons _ _ _ _ (Free.int _ _ _ _ _ a1) (.cons _ _ _ _ (Free.int _ _ _ _ _ a2) (.cons _ _ _ _ (Free.bool _ _ _ _ a3) (.cons _ _ _ _ (Free.bool _ _ _ _ a4) (.cons _ _ _ _ (.ptr _ _ _ _ (e.trans hφ)) .nil))))) (by
    intro x hx
    simp only [List.mem_cons, List.not_mem_nil, or_false] at hx
    rcases hx with rfl | rfl | rfl | rfl | rfl <;> rfl)
theorem vrs_reg {φ φ' : Emb} {ir n0 : Id} (e : φ' n0 = φ ir) : ∀ {l : List AV} {vs : List Value}, (∀ x ∈ l, x = colB ∨ x = colN ∨ x = colR ir) → VRs φ l vs → VRs φ' (l.map (rnC n0)) vs
  | [], _, _, h => by cases h; exact .nil
  | x :: l, _, hx, h => by
    cases h with
    | cons _ v _ r h t =>
      refine .cons _ _ _ _ ?_ (vrs_reg e (fun y hy => hx y (by simp [hy])) t)
      rcases hx x (by simp) with rfl | rfl | rfl
      · exact colB_free _ _ _ h
      · exact colN_free _ _ _ h
      · exact colR_ren e h
theorem reg_BR {φ φ' : Emb} {ir n0 : Id} {l : List (AV × AV)} {c z : Nat} {w : World} (e : φ' n0 = φ ir) (hp : l.Perm [(keyB, colB), (keyN, colN), (keyR, colR ir)]) (h : BR φ (.map kt7 l) c z w) : BR φ' (.map kt7 (reg3 n0)) c z w := by
  obtain ⟨es, clock, l', h1, h2, h3, h4, h5, h6, h7⟩ := h
  have h2 := h2.trans hp
  have hm : ∀ p ∈ l', p = (keyB, colB) ∨ p = (keyN, colN) ∨ p = (keyR, colR ir) := fun p hp => by simpa using h2.mem_iff.1 hp
  refine ⟨es, clock, l'.map fun p => (p.1, rnC n0 p.2), h1, ?_, ?_, ?_, ?_, ?_, h7⟩
  · exact h2.map fun p : AV × AV => (p.1, rnC n0 p.2)
  · rw [List.map_map]
    refine VRs.free (fun x hx => ?_) h3
    obtain ⟨p, hp, rfl⟩ := List.mem_map.1 hx
    rcases hm p hp with rfl | rfl | rfl <;> exact Free.agg fun x hx => by (simp at hx; subst hx; exact Free.str _)
  · rw [List.map_map]
    have : (l'.map ((·.2) ∘ fun p : AV × AV => (p.1, rnC n0 p.2))) = (l'.map (·.2)).map (rnC n0) := by rw [List.map_map]; rfl
    rw [this]
    refine vrs_reg e (fun x hx => ?_) h4
    obtain ⟨p, hp, rfl⟩ := List.mem_map.1 hx
    rcases hm p hp with rfl | rfl | rfl
    · exact .inl rfl
    · exact .inr (.inl rfl)
    · exact .inr (.inr rfl)
  · unfold reg3
    simp
    exact ⟨⟨rfl, rfl⟩, rfl⟩
  · intro p hp
    unfold reg3 at hp
    simp only [List.mem_cons, List.not_mem_nil, or_false] at hp
    rcases hp with rfl | rfl | rfl <;> rfl
theorem law7 [K0 : Keep] : EntOk Tryz.prog i7 (.law f7) := by
  intro args σ v σ' hf
  unfold f7 at hf
  split at hf
  · obtain ⟨n1, hn1, e1⟩ := H.new_eq hf (by simp)
    obtain ⟨n2, hn2, e2⟩ := H.new_eq e1 (by simp)
    obtain ⟨n3, hn3, e3⟩ := H.new_eq e2 (by simp)
    simp only at hn2 hn3 e3
    injection e3 with e3
    injection e3 with ev eσ
    subst ev eσ
    have q1 := Id.succ_num hn1
    have q2 := Id.succ_num hn2
    have q3 := Id.succ_num hn3
    refine ⟨callsOk (by kernel_rfl), fun φ w args' hG hH hv => ?_⟩
    cases hv
    refine (new7 hG (w := w)).mono ?_
    rintro e w' ⟨φ', σf, im, ir, ib, l, t, m, v', rfl, hv, hH', hE, b1, b2, b3, b4, b5⟩
    have hkept : ∀ k, k < w.heap.size → w'.heap[k]? = w.heap[k]? := fun k hk => kw_kept hH' hk
    obtain ⟨cr, zr, r1, r2⟩ := @HR.blk (kw w none []) _ _ _ hH' ir _ b3
    obtain ⟨cm, zm, m1, m2⟩ := @HR.blk (kw w none []) _ _ _ hH' im _ b1
    obtain ⟨cb, zb, d1, d2⟩ := @HR.blk (kw w none []) _ _ _ hH' ib _ b4
    have gr := kw_new_lt hH' b3 r1
    have gm := kw_new_lt hH' b1 m1
    have gb := kw_new_lt hH' b4 d1
    have nrm : cr ≠ cm := fun e => by
      have := @HR.inj (kw w none []) _ _ _ hH' ir im _ _ cr zr zm b3 b1 r1 (e ▸ m1)
      rw [this, b1] at b3; cases b3
    have nrb : cr ≠ cb := fun e => b5 (@HR.inj (kw w none []) _ _ _ hH' ir ib _ _ cr zr zb b3 b4 r1 (e ▸ d1))
    have nmb : cm ≠ cb := fun e => by
      have := @HR.inj (kw w none []) _ _ _ hH' im ib _ _ cm zm zb b1 b4 m1 (e ▸ d1)
      rw [this, b4] at b1; cases b1
    have img : ∀ b x c z, σ.blk b = some x → φ b = some (c, z) → c < w.heap.size := fun b x c z hb e => by
      obtain ⟨c1, z1, h1, h2⟩ := hH.blk b x hb
      rw [e] at h1; cases h1; exact h2.lt
    have kno : ∀ c, w.heap.size ≤ c → Keep.at' c = none := fun c hc => by
      cases e : Keep.at' c with
      | none => rfl
      | some o => have := (Array.getElem?_eq_some_iff.1 (hH.keep c o e).1).1; omega
    have hf0 := hH.fresh σ.n (Nat.le_refl _)
    have hH0 : HR φ σ w' := hH.old hkept
    -- the table
    obtain ⟨A1, _⟩ := HR.add (m := From σ.n.num) (σ' := ⟨n1, set5 σ.n (some (.cells .nil 0)) σ.m⟩) (w' := w') hH0 σ.n (.cells .nil 0) cr zr hf0 (Nat.le_refl _) (by show σ.n.num ≤ n1.num; omega) (by show σ.n.num < n1.num; omega) (fun j => H.blk_new σ n1 _ j)
      (fun i y z hi e => by have := img i y cr z hi e; omega) (fun _ _ _ => rfl) (Nat.le_refl _) rfl rfl rfl (by
        cases hx : (Blk.cells t m) with
        | cells t' m' =>
          cases hx
          obtain ⟨cur, e, s1, s2, s3, s4⟩ := r2
          exact ⟨cur, e, s1, s2, Nat.zero_le _, fun k y hk => by cases hk⟩
        | map kt l => cases hx
        | iter l p => cases hx) (fun _ => kno cr gr)
    have s1 : Sub φ (upd φ σ.n (cr, zr)) := Sub.upd _ hf0
    have f1 : upd φ σ.n (cr, zr) n1 = none := A1.fresh n1 (Nat.le_refl _)
    -- the map
    have blk1 : ∀ i y c z, (⟨n1, set5 σ.n (some (.cells .nil 0)) σ.m⟩ : H).blk i = some y → upd φ σ.n (cr, zr) i = some (c, z) → c = cr ∨ c < w.heap.size := fun i y c z hi e => by
      rw [H.blk_new] at hi
      by_cases ei : σ.n = i
      · rw [← ei, upd_same] at e; cases e; exact .inl rfl
      · rw [if_neg ei] at hi; rw [upd_ne _ _ (Ne.symm ei)] at e; exact .inr (img i y c z hi e)
    obtain ⟨A2, _⟩ := HR.add (m := From n1.num) (σ' := ⟨n2, set5 n1 (some (.map kt7 (reg3 σ.n))) (set5 σ.n (some (.cells .nil 0)) σ.m)⟩) (w' := w') A1 n1 (.map kt7 (reg3 σ.n)) cm zm f1 (Nat.le_refl _) (by show n1.num ≤ n2.num; omega) (by show n1.num < n2.num; omega) (fun j => H.blk_new ⟨n1, set5 σ.n (some (.cells .nil 0)) σ.m⟩ n2 _ j)
      (fun i y z hi e => by rcases blk1 i y cm z hi e with h | h <;> omega) (fun _ _ _ => rfl) (Nat.le_refl _) rfl rfl rfl (reg_BR (by rw [upd_ne _ _ (fun e => by rw [← e] at q1; omega), upd_same, r1]) b2 m2) (fun _ => kno cm gm)
    have s2 : Sub (upd φ σ.n (cr, zr)) (upd (upd φ σ.n (cr, zr)) n1 (cm, zm)) := Sub.upd _ f1
    have f2 : upd (upd φ σ.n (cr, zr)) n1 (cm, zm) n2 = none := A2.fresh n2 (Nat.le_refl _)
    have blk2 : ∀ i y c z, (⟨n2, set5 n1 (some (.map kt7 (reg3 σ.n))) (set5 σ.n (some (.cells .nil 0)) σ.m)⟩ : H).blk i = some y → upd (upd φ σ.n (cr, zr)) n1 (cm, zm) i = some (c, z) → c = cr ∨ c = cm ∨ c < w.heap.size := fun i y c z hi e => by
      rw [H.blk_new ⟨n1, set5 σ.n (some (.cells .nil 0)) σ.m⟩] at hi
      by_cases ei : n1 = i
      · rw [← ei, upd_same] at e; cases e; exact .inr (.inl rfl)
      · rw [if_neg ei] at hi; rw [upd_ne _ _ (Ne.symm ei)] at e
        rcases blk1 i y c z hi e with h | h
        · exact .inl h
        · exact .inr (.inr h)
    -- the reg
    obtain ⟨A3, _⟩ := HR.add (m := From n2.num) (σ' := ⟨n3, set5 n2 (some (.cells (T.lay [.map n1] 0 .nil) 1)) (set5 n1 (some (.map kt7 (reg3 σ.n))) (set5 σ.n (some (.cells .nil 0)) σ.m))⟩) (w' := w') A2 n2 (.cells (T.lay [.map n1] 0 .nil) 1) cb zb f2 (Nat.le_refl _) (by show n2.num ≤ n3.num; omega) (by show n2.num < n3.num; omega) (fun j => H.blk_new ⟨n2, set5 n1 (some (.map kt7 (reg3 σ.n))) (set5 σ.n (some (.cells .nil 0)) σ.m)⟩ n3 _ j)
      (fun i y z hi e => by rcases blk2 i y cb z hi e with h | h | h <;> omega) (fun _ _ _ => rfl) (Nat.le_refl _) rfl rfl rfl (by
        cases hx : (Blk.cells (T.lay [AV.map im] 0 .nil) 1) with
        | cells t' m' =>
          cases hx
          obtain ⟨cur, e, s1, s2, s3, s4⟩ := d2
          refine ⟨cur, e, s1, s2, s3, fun k y hk => ?_⟩
          rw [lay_nil_get] at hk
          have hk0 : k = 0 := by have := (List.getElem?_eq_some_iff.1 hk).1; simp at this; exact this
          subst hk0
          cases hk
          obtain ⟨g1, g2, v, g3, g4⟩ := s4 0 _ (by rw [lay_nil_get]; rfl)
          cases g4 with
          | map _ c z hc =>
          rw [m1] at hc; cases hc
          exact ⟨g1, rfl, _, g3, .map _ _ _ (by rw [upd_ne _ _ (fun e => by rw [← e] at q2; omega), upd_same])⟩
        | map kt l => cases hx
        | iter l p => cases hx) (fun _ => kno cb gb)
    have s3 := Sub.upd (cb, zb) f2
    cases hv with
    | ptr _ _ cb' zb' hφ =>
    rw [d1] at hφ; cases hφ
    refine ⟨_, _, rfl, .ptr _ _ _ _ (upd_same _ _ _), A3, s1.trans (s2.trans s3), hE.os, hE.tape, hE.output, hE.size, fun k hk _ => hkept k hk, fun b y c1 z1 hb e hlt => ?_, fun b h0 h2 => ?_, by show σ.n.num ≤ n3.num; omega⟩
    · rw [H.blk_new ⟨n2, set5 n1 (some (.map kt7 (reg3 σ.n))) (set5 σ.n (some (.cells .nil 0)) σ.m)⟩] at hb
      by_cases eb : n2 = b
      · rw [← eb, upd_same] at e; cases e; omega
      · rw [if_neg eb, H.blk_new ⟨n1, set5 σ.n (some (.cells .nil 0)) σ.m⟩] at hb
        rw [upd_ne _ _ (Ne.symm eb)] at e
        by_cases eb1 : n1 = b
        · rw [← eb1, upd_same] at e; cases e; omega
        · rw [if_neg eb1, H.blk_new] at hb
          rw [upd_ne _ _ (Ne.symm eb1)] at e
          by_cases eb0 : σ.n = b
          · rw [← eb0, upd_same] at e; cases e; omega
          · rw [if_neg eb0] at hb
            rw [upd_ne _ _ (Ne.symm eb0)] at e
            exact ⟨b, y, z1, hb, e⟩
    · show σ.n.num ≤ b.num
      by_cases eb : b = n2
      · rw [eb]; omega
      · by_cases eb1 : b = n1
        · rw [eb1]; omega
        · by_cases eb0 : b = σ.n
          · rw [eb0]; exact Nat.le_refl _
          · rw [upd_ne _ _ eb, upd_ne _ _ eb1, upd_ne _ _ eb0] at h2; exact absurd h0 h2
  · cases hf
end
end Go.Dk.Run
