/-
  Rules that walk the machine step by step.
-/
import Derived.Test.YtfjnaaobbgeoeaaGreatDoorEh
set_option maxRecDepth 100000
set_option linter.all false
namespace Go.Dk.Run
open Go Go.Dk Go.RowKit Go.Proofs
noncomputable section
abbrev i4 : I3 := ⟨.d0, .d0, .d4⟩
abbrev i11 : I3 := ⟨.d0, .d1, .d3⟩
abbrev i12 : I3 := ⟨.d0, .d1, .d4⟩
/-- How code ends: by its end, or by handing back. -/
def Xk (x : X) (K R : Fr → H → Prop) : Prop := match x with | .nrm τ σ => K τ σ | .ret τ σ => R τ σ | _ => False
section
variable {FT : F3 Ent} {τ : Fr} {σ : H} {n : Nat} {K R : Fr → H → Prop}
theorem Xk.seq {a b : AC} (h : Xk (exec FT (n + 1) a τ σ) (fun τ1 σ1 => Xk (exec FT (n + 1) b τ1 σ1) K R) R) : Xk (exec FT (n + 1) (.seq a b) τ σ) K R := by
  show Xk (X.rec (motive := fun _ => X) .no (exec FT (n + 1) b) (fun id τ σ => .brk id τ σ) (fun τ σ => .ret τ σ) (exec FT (n + 1) a τ σ)) K R
  cases hx : exec FT (n + 1) a τ σ <;> rw [hx] at h <;> exact h
theorem Xk.block {id : Nat} {a : AC} (h : Xk (exec FT (n + 1) a τ σ) K R) : Xk (exec FT (n + 1) (.block id a) τ σ) K R := by
  show Xk (X.rec (motive := fun _ => X) .no (fun τ σ => .nrm τ σ) (fun id' τ σ => ite8 (Nat.beq id' id) (.nrm τ σ) (.brk id' τ σ)) (fun τ σ => .ret τ σ) (exec FT (n + 1) a τ σ)) K R
  cases hx : exec FT (n + 1) a τ σ <;> rw [hx] at h <;> first | exact h | exact h.elim
theorem Xk.ops {l : List AR} (h : Rn (callE FT (exec FT n)) σ.n l τ σ K) : Xk (exec FT (n + 1) (.ops l) τ σ) K R := by
  obtain ⟨τ1, σ1, h1, h2⟩ := h
  show Xk (xOut (runL (callE FT (exec FT n)) σ.n l τ σ)) K R
  rw [h1]; exact h2
theorem Xk.condT {x : AX} {a b : AC} (hb : ev τ x = .bool true) (h : Xk (exec FT (n + 1) a τ σ) K R) : Xk (exec FT (n + 1) (.cond x a b) τ σ) K R := by rw [exec_cond hb]; exact h
theorem Xk.condF {x : AX} {a b : AC} (hb : ev τ x = .bool false) (h : Xk (exec FT (n + 1) b τ σ) K R) : Xk (exec FT (n + 1) (.cond x a b) τ σ) K R := by rw [exec_cond hb]; exact h
theorem Xk.skip (h : K τ σ) : Xk (exec FT (n + 1) .skip τ σ) K R := h
theorem Xk.ret (h : R τ σ) : Xk (exec FT (n + 1) .ret τ σ) K R := h
def Ck (o : Option (AV × H)) (P : AV → H → Prop) : Prop := ∃ v σ, o = some (v, σ) ∧ P v σ
theorem Ck.code {k : I3} {ps : List I3} {body : AC} {rs : List RV} {args : List AV} {τ0 : Fr} {P : AV → H → Prop} (hk : get3 k FT = .code ps body rs) (hb : bindA ps args emptyF = some τ0) (h : Xk (exec FT n body τ0 σ) (fun _ _ => False) fun τ1 σ1 => ∃ v, resX rs τ1 σ1 = some (v, σ1) ∧ P v σ1) : Ck (callE FT (exec FT n) k args σ) P := by
  unfold callE
  rw [hk]
  show Ck (Option.rec (motive := fun _ => Option (AV × H)) none (fun τ => X.rec (motive := fun _ => Option (AV × H)) none (resX rs) (fun _ _ _ => none) (resX rs) (exec FT n body τ σ)) (bindA ps args emptyF)) P
  rw [hb]
  show Ck (X.rec (motive := fun _ => Option (AV × H)) none (resX rs) (fun _ _ _ => none) (resX rs) (exec FT n body τ0 σ)) P
  cases hx : exec FT n body τ0 σ with
  | no => rw [hx] at h; exact h.elim
  | nrm τ1 σ1 => rw [hx] at h; exact h.elim
  | brk id τ1 σ1 => rw [hx] at h; exact h.elim
  | ret τ1 σ1 => rw [hx] at h; obtain ⟨v, h1, h2⟩ := h; exact ⟨v, σ1, h1, h2⟩
theorem Rn.call {cf : I3 → List AV → H → Option (AV × H)} {base : Id} {d : Option I3} {op : AO} {l : List AR} {k : I3} {args : List AV} (h : op.run base τ σ = .call k args) (hc : Ck (cf k args σ) fun v σ1 => Rn cf base l (dput d v τ) σ1 K) : Rn cf base (⟨d, none, op⟩ :: l) τ σ K := by
  obtain ⟨v, σ1, h1, h2⟩ := hc
  exact Rn.cons (step_call h h1) h2
end
def drv (r : Nat) (l : List Nat) : AV := .agg [ii r, .str l]
theorem step_eqF {cf : I3 → List AV → H → Option (AV × H)} {base : Id} {τ : Fr} {σ : H} {d : Option I3} {x y : AX} {r r' : Nat} {l l' : List Nat} (hx : ev τ x = drv r l) (hy : ev τ y = drv r' l') : AR.step cf ⟨d, none, .eq false (.flat [.i, .s]) x y⟩ base τ σ = some (.bool (ite8 (Nat.beq r r') (seq8 l l') false), σ) := by
  refine step_ok ?_
  show hEq false (.flat [.i, .s]) x y base τ σ = _
  unfold hEq
  rw [hx, hy]
  show Option.rec (motive := fun _ => OR) .no (fun e => .ok (.bool (ite8 false (not8 e) e)) σ) (ite8 (Nat.beq r r') (Option.rec (motive := fun _ => Option Bool) none (fun e => ite8 e (some true) (some false)) (some (seq8 l l'))) (some false)) = _
  cases Nat.beq r r' with
  | false => rfl
  | true => cases seq8 l l' <;> rfl
/-! The same, in a form that is taken apart by its head alone -/
structure Gx (FT : F3 Ent) (n : Nat) (ac : AC) (τ : Fr) (σ : H) (K R : Fr → H → Prop) : Prop where
  out : Xk (exec FT n ac τ σ) K R
structure Gr (cf : I3 → List AV → H → Option (AV × H)) (base : Id) (l : List AR) (τ : Fr) (σ : H) (K : Fr → H → Prop) : Prop where
  out : Rn cf base l τ σ K
structure Gc (FT : F3 Ent) (n : Nat) (k : I3) (args : List AV) (σ : H) (P : AV → H → Prop) : Prop where
  out : Ck (callE FT (exec FT n) k args σ) P
section
variable {FT : F3 Ent} {τ : Fr} {σ : H} {n : Nat} {K R : Fr → H → Prop} {cf : I3 → List AV → H → Option (AV × H)} {base : Id}
theorem Gx.seq {a b : AC} (h : Gx FT (n + 1) a τ σ (fun τ1 σ1 => Gx FT (n + 1) b τ1 σ1 K R) R) : Gx FT (n + 1) (.seq a b) τ σ K R := by
  refine ⟨Xk.seq ?_⟩
  have := h.out
  unfold Xk at this ⊢
  split at this <;> first | exact this.out | exact this | exact this.elim
theorem Gx.block {id : Nat} {a : AC} (h : Gx FT (n + 1) a τ σ K R) : Gx FT (n + 1) (.block id a) τ σ K R := ⟨Xk.block h.out⟩
theorem Gx.ops {l : List AR} (h : Gr (callE FT (exec FT n)) σ.n l τ σ K) : Gx FT (n + 1) (.ops l) τ σ K R := ⟨Xk.ops h.out⟩
theorem Gx.condT {x : AX} {a b : AC} (hb : ev τ x = .bool true) (h : Gx FT (n + 1) a τ σ K R) : Gx FT (n + 1) (.cond x a b) τ σ K R := ⟨Xk.condT hb h.out⟩
theorem Gx.condF {x : AX} {a b : AC} (hb : ev τ x = .bool false) (h : Gx FT (n + 1) b τ σ K R) : Gx FT (n + 1) (.cond x a b) τ σ K R := ⟨Xk.condF hb h.out⟩
theorem Gx.skip (h : K τ σ) : Gx FT (n + 1) .skip τ σ K R := ⟨h⟩
theorem Gx.ret (h : R τ σ) : Gx FT (n + 1) .ret τ σ K R := ⟨h⟩
theorem Gr.nil (h : K τ σ) : Gr cf base [] τ σ K := ⟨Rn.nil h⟩
theorem Gr.cons {o : AR} {l : List AR} {v : AV} {σ1 : H} (hs : o.step cf base τ σ = some (v, σ1)) (h : Gr cf base l (dput o.dst v τ) σ1 K) : Gr cf base (o :: l) τ σ K := ⟨Rn.cons hs h.out⟩
theorem Gr.callF {d : Option I3} {l : List AR} {k : I3} {xs : List AX} (hc : Gc FT n k (evs τ xs) σ fun v σ1 => Gr (callE FT (exec FT n)) base l (dput d v τ) σ1 K) : Gr (callE FT (exec FT n)) base (⟨d, none, .callF k xs⟩ :: l) τ σ K := by
  obtain ⟨v, σ1, h1, h2⟩ := hc.out
  exact ⟨Rn.call rfl ⟨v, σ1, h1, h2.out⟩⟩
theorem Gc.code {k : I3} {ps : List I3} {body : AC} {rs : List RV} {args : List AV} {τ0 : Fr} {P : AV → H → Prop} (hk : get3 k FT = .code ps body rs) (hb : bindA ps args emptyF = some τ0) (h : Gx FT n body τ0 σ (fun _ _ => False) fun τ1 σ1 => ∃ v, resX rs τ1 σ1 = some (v, σ1) ∧ P v σ1) : Gc FT n k args σ P := ⟨Ck.code hk hb h.out⟩
theorem Gr.eqF {d : Option I3} {x y : AX} {r r' : Nat} {l l' : List Nat} {ol : List AR} (hx : ev τ x = drv r l) (hy : ev τ y = drv r' l') (h : Gr cf base ol (dput d (.bool (ite8 (Nat.beq r r') (seq8 l l') false)) τ) σ K) : Gr cf base (⟨d, none, .eq false (.flat [.i, .s]) x y⟩ :: ol) τ σ K := .cons (step_eqF hx hy) h
theorem Gr.binS {o : AR} {b b' : Bool} {ol : List AR} (hx : o.step cf base τ σ = some (.bool b, σ)) (hb : b = b') (h : Gr cf base ol (dput o.dst (.bool b') τ) σ K) : Gr cf base (o :: ol) τ σ K := .cons hx (by subst hb; exact h)
end
end
end Go.Dk.Run
