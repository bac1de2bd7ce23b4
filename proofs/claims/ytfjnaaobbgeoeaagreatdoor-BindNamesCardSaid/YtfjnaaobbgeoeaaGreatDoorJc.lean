/-
  Code that the machine does not run by itself, walked by hand.
-/
import Derived.Test.YtfjnaaobbgeoeaaGreatDoorJb
import Derived.Maps.RangeRun
set_option maxRecDepth 100000
set_option linter.all false
namespace Go.Dk
open Go Go.RowKit
noncomputable section

/-- A register that is not looked at any more. -/
def junk : AV := .tup [.tup []]
/-- What is held: the old blocks but for x, and some of the new ones. -/
@[reducible] def kw (w0 : World) (x : Option Nat) (l : List (Nat × Obj)) : Keep := ⟨fun k => if k < w0.heap.size then (if x = some k then none else w0.heap[k]?) else l.lookup k⟩
/-- What no step turns. -/
structure Env (w0 w : World) : Prop where
  os : w.os = w0.os
  tape : w.tape = w0.tape
  output : w.output = w0.output
  size : w0.heap.size ≤ w.heap.size
theorem Env.refl (w : World) : Env w w := ⟨rfl, rfl, rfl, Nat.le_refl _⟩
theorem Env.fm {w0 w w' : World} {m : Id → Prop} {φ φ' : Emb} {σ σ' : H} (h : Env w0 w) (f : Fm m φ σ w φ' σ' w') : Env w0 w' := ⟨f.os.trans h.os, f.tape.trans h.tape, f.output.trans h.output, Nat.le_trans h.size f.size⟩
theorem HR.rekeep {K K' : Keep} {φ : Emb} {σ : H} {w : World} (h : @HR K φ σ w) (hk : ∀ k o, K'.at' k = some o → w.heap[k]? = some o ∧ ∀ b x z, σ.blk b = some x → φ b ≠ some (k, z)) : @HR K' φ σ w := @HR.mk K' φ σ w (@HR.fresh K _ _ _ h) (@HR.blk K _ _ _ h) (@HR.inj K _ _ _ h) hk
/-! Frames made anew -/
def N8.of {α : Type} (f : D8 → α) : N8 α := ⟨f .d0, f .d1, f .d2, f .d3, f .d4, f .d5, f .d6, f .d7⟩
theorem N8.get_of {α : Type} (f : D8 → α) (i : D8) : N8.get i (N8.of f) = f i := by cases i <;> rfl
def of3 {α : Type} (f : I3 → α) : F3 α := N8.of fun a => N8.of fun b => N8.of fun c => f ⟨a, b, c⟩
theorem get_of3 {α : Type} (f : I3 → α) (i : I3) : get3 i (of3 f) = f i := by obtain ⟨a, b, c⟩ := i; simp only [get3, of3, N8.get_of]
theorem TR.junk {φ φ' : Emb} {N : Nat} {τ : Fr} {a : Act} (h : TR φ N τ a) (hG : GOk φ') : ∃ τ0, TR φ' N τ0 a := by
  refine ⟨of3 fun i => match a.tmps.getD i.num undef with | .bool b => .bool b | _ => Dk.junk, h.size, h.defers, hG, fun i => ?_⟩
  rw [get_of3]
  generalize a.tmps.getD i.num undef = v
  cases v <;> first | exact .bool _ | exact .junk _ (fun b e => by cases e)
theorem TR.reg {φ : Emb} {N : Nat} {τ : Fr} {a : Act} (h : TR φ N τ a) {i : I3} {x : AV} (hv : VR φ x (a.tmps.getD i.num undef)) : TR φ N (set3 i x τ) a := by
  refine ⟨h.size, h.defers, h.glob, fun j => ?_⟩
  rw [get_set3]
  by_cases e : i = j
  · rw [if_pos e, ← e]; exact hv
  · rw [if_neg e]; exact h.slot j
def sets (regs : List (I3 × AV)) (τ : Fr) : Fr := regs.foldr (fun p t => set3 p.1 p.2 t) τ
theorem TR.sets {φ : Emb} {N : Nat} {τ : Fr} {a : Act} (h : TR φ N τ a) : ∀ {regs : List (I3 × AV)}, (∀ p ∈ regs, VR φ p.2 (a.tmps.getD p.1.num undef)) → TR φ N (sets regs τ) a
  | [], _ => h
  | p :: r, hv => (TR.sets h (regs := r) fun q hq => hv q (by simp [hq])).reg (hv p (by simp))
/-- Numbers given anew: r says which old one stands for a new one. -/
def ren (r : List (Id × Id)) (φ : Emb) : Emb := fun i => if i.num < 64 then φ i else match r.lookup i with | some j => φ j | none => none
theorem ren_GOk {r : List (Id × Id)} {φ : Emb} (h : GOk φ) : GOk (ren r φ) := fun b hb => by unfold ren; rw [if_pos hb]; exact h b hb
theorem lookup_mem {r : List (Id × Id)} {i j : Id} (h : r.lookup i = some j) : (i, j) ∈ r := by
  induction r with
  | nil => cases h
  | cons p r ih =>
    obtain ⟨a, b⟩ := p
    rw [List.lookup_cons] at h
    by_cases e : (i == a) = true
    · rw [e] at h; cases h; have : i = a := by simpa using e
      subst this; simp
    · rw [Bool.not_eq_true] at e
      rw [e] at h; simp [ih h]
/-- What is asked of numbers given anew. -/
def renOk (r : List (Id × Id)) (n : Id) : Bool := r.all (fun p => decide (64 ≤ p.1.num) && decide (p.1.num < n.num)) && decide (64 ≤ n.num) && decide ((r.map (·.2)).Nodup)
theorem nodup_inj {r : List (Id × Id)} (h : (r.map (·.2)).Nodup) {a b c : Id} (h1 : (a, c) ∈ r) (h2 : (b, c) ∈ r) : a = b := by
  induction r with
  | nil => cases h1
  | cons p r ih =>
    rw [List.map_cons, List.nodup_cons] at h
    rcases List.mem_cons.1 h1 with e1 | m1 <;> rcases List.mem_cons.1 h2 with e2 | m2
    · rw [← e1] at e2; exact ((Prod.mk.inj e2).1).symm
    · exact absurd (List.mem_map_of_mem (f := (·.2)) m2) (by rw [← e1] at h; exact h.1)
    · exact absurd (List.mem_map_of_mem (f := (·.2)) m1) (by rw [← e2] at h; exact h.1)
    · exact ih h.2 m1 m2
theorem HR.ren [K : Keep] {φ : Emb} {σ σ2 : H} {w : World} (h : HR φ σ w) (r : List (Id × Id)) (hr : renOk r σ2.n = true)
    (hb : ∀ b x, σ2.blk b = some x → ∃ b0 x0, r.lookup b = some b0 ∧ σ.blk b0 = some x0 ∧ ∀ c z, φ b0 = some (c, z) → BR φ x0 c z w → BR (ren r φ) x c z w) : HR (ren r φ) σ2 w := by
  unfold renOk at hr
  rw [Bool.and_eq_true, Bool.and_eq_true, decide_eq_true_eq, decide_eq_true_eq, List.all_eq_true] at hr
  obtain ⟨⟨h1, h2⟩, h3⟩ := hr
  have h64 : ∀ {b b0}, r.lookup b = some b0 → ¬ b.num < 64 := fun {b b0} e => by
    have := h1 _ (lookup_mem e)
    rw [Bool.and_eq_true, decide_eq_true_eq] at this
    have h5 : 64 ≤ b.num := this.1; omega
  have at' : ∀ {b b0}, r.lookup b = some b0 → Dk.ren r φ b = φ b0 := fun {b b0} e => by unfold Dk.ren; rw [if_neg (h64 e), e]
  refine ⟨fun i hi => ?_, fun b x hx => ?_, fun b b' x x' c z z' hx hx' e e' => ?_, fun k o hk => ⟨(h.keep k o hk).1, fun b x z hx e => ?_⟩⟩
  · unfold Dk.ren
    rw [if_neg (by omega)]
    cases hl : r.lookup i with
    | none => rfl
    | some j =>
      have := h1 _ (lookup_mem hl)
      rw [Bool.and_eq_true, decide_eq_true_eq, decide_eq_true_eq] at this
      have h5 : i.num < σ2.n.num := this.2; omega
  · obtain ⟨b0, x0, g1, g2, g3⟩ := hb b x hx
    obtain ⟨c, z, g4, g5⟩ := h.blk b0 x0 g2
    exact ⟨c, z, by rw [at' g1]; exact g4, g3 c z g4 g5⟩
  · obtain ⟨b0, x0, g1, g2, _⟩ := hb b x hx
    obtain ⟨b1, x1, g3, g4, _⟩ := hb b' x' hx'
    rw [at' g1] at e; rw [at' g3] at e'
    have := h.inj b0 b1 x0 x1 c z z' g2 g4 e e'
    subst this
    exact nodup_inj h3 (lookup_mem g1) (lookup_mem g3)
  · obtain ⟨b0, x0, g1, g2, _⟩ := hb b x hx
    rw [at' g1] at e
    exact (h.keep k o hk).2 b0 x0 z g2 e
/-! What holds of states -/
/-- Numbers whose places are known. -/
def Pin (pins : List (Id × Nat × Nat)) (φ : Emb) : Prop := ∀ p ∈ pins, φ p.1 = some p.2
theorem Pin.mono {pins : List (Id × Nat × Nat)} {φ φ' : Emb} (h : Pin pins φ) (hs : Sub φ φ') : Pin pins φ' := fun p hp => hs _ _ (h p hp)
def SQ [Keep] (N : Nat) (w0 : World) (pins : List (Id × Nat × Nat)) (τ : Fr) (σ : H) (R : Act → World → Prop) : Prop := ∀ φ a w, TR φ N τ a → HR φ σ w → Env w0 w → Pin pins φ → R a w
def pinOk (r : List (Id × Id)) (pins pins2 : List (Id × Nat × Nat)) : Prop := ∀ p ∈ pins2, ∃ b0, r.lookup p.1 = some b0 ∧ (b0, p.2) ∈ pins
theorem ren_at {r : List (Id × Id)} {n : Id} (hr : renOk r n = true) {φ : Emb} {b b0 : Id} (e : r.lookup b = some b0) : ren r φ b = φ b0 := by
  unfold renOk at hr
  rw [Bool.and_eq_true, Bool.and_eq_true, List.all_eq_true] at hr
  have := hr.1.1 _ (lookup_mem e)
  rw [Bool.and_eq_true, decide_eq_true_eq] at this
  have h5 : 64 ≤ b.num := this.1
  unfold ren; rw [if_neg (by omega), e]
theorem SQ.re [Keep] {N : Nat} {w0 : World} {pins : List (Id × Nat × Nat)} {τ : Fr} {σ : H} {R : Act → World → Prop} (r : List (Id × Id)) (pins2 : List (Id × Nat × Nat)) (σ2 : H) (regs : List (I3 × AV)) (hr : renOk r σ2.n = true) (hp : pinOk r pins pins2)
    (hb : ∀ b x, σ2.blk b = some x → ∃ b0 x0, r.lookup b = some b0 ∧ σ.blk b0 = some x0 ∧ ∀ φ w c z, BR φ x0 c z w → BR (ren r φ) x c z w)
    (hv : ∀ p ∈ regs, ∀ φ v, VR φ (get3 p.1 τ) v → VR (ren r φ) p.2 v) (h : ∀ τ0, SQ N w0 pins2 (sets regs τ0) σ2 R) : SQ N w0 pins τ σ R := by
  intro φ a w hT hH hE hP
  obtain ⟨τ0, h0⟩ := hT.junk (ren_GOk (r := r) hT.glob)
  refine h τ0 _ a w (h0.sets fun p hp => hv p hp φ _ (hT.slot p.1)) (hH.ren r hr fun b x hx => let ⟨b0, x0, g1, g2, g3⟩ := hb b x hx; ⟨b0, x0, g1, g2, fun c z _ h => g3 φ w c z h⟩) hE fun p hp2 => ?_
  obtain ⟨b0, h1, h2⟩ := hp p hp2
  rw [ren_at hr h1]
  exact hP _ h2
/-! Code by its abstract code -/
section
variable [Keep] {P : Program} {N : Nat} {w0 : World} {pins : List (Id × Nat × Nat)} {Q : Exit → Act → World → Prop} {τ : Fr} {σ : H}
def WpA (P : Program) (N : Nat) (w0 : World) (pins : List (Id × Nat × Nat)) (ac : AC) (Q : Exit → Act → World → Prop) (τ : Fr) (σ : H) : Prop := ∀ (c : Code), acOf P N c = some ac → SQ N w0 pins τ σ (c.wp P Q)
def LpA (P : Program) (N : Nat) (w0 : World) (pins : List (Id × Nat × Nat)) (ac : AC) (Q : Exit → Act → World → Prop) (τ : Fr) (σ : H) : Prop := ∀ (c : Code), acOf P N c = some ac → SQ N w0 pins τ σ (LoopWp P c Q)
def WpX (N : Nat) (w0 : World) (pins : List (Id × Nat × Nat)) (x : X) (Q : Exit → Act → World → Prop) : Prop :=
  match x with
  | .no => False
  | .nrm τ σ => SQ N w0 pins τ σ (Q .normal)
  | .brk id τ σ => SQ N w0 pins τ σ (Q (.exit id))
  | .ret τ σ => SQ N w0 pins τ σ (Q .ret)
theorem WpA.exec (hmix : P.follows .mixedOrders = true) {FT : F3 Ent} (hFT : ∀ k, EntOk P k (get3 k FT)) (n : Nat) {ac : AC} (h : WpX N w0 pins (Dk.exec FT n ac τ σ) Q) : WpA P N w0 pins ac Q τ σ := by
  intro c hc φ a w hT hH hE hP
  refine (exec_R hmix n (fun m _ => calls_R hmix hFT m) ac).1 c hc hT hH ?_
  cases hx : Dk.exec FT n ac τ σ with
  | no => rw [hx] at h; exact h
  | nrm τ' σ' => rw [hx] at h; exact fun φ' a' w' h1 h2 h3 => h φ' a' w' h1 h2 (hE.fm h3) (hP.mono h3.ext)
  | brk id τ' σ' => rw [hx] at h; exact fun φ' a' w' h1 h2 h3 => h φ' a' w' h1 h2 (hE.fm h3) (hP.mono h3.ext)
  | ret τ' σ' => rw [hx] at h; exact fun φ' a' w' h1 h2 h3 => h φ' a' w' h1 h2 (hE.fm h3) (hP.mono h3.ext)
theorem acOf_seq {c : Code} {x y : AC} (h : acOf P N c = some (.seq x y)) : ∃ c1 c2, c = .seq c1 c2 ∧ acOf P N c1 = some x ∧ acOf P N c2 = some y := by
  cases c <;> try (simp [acOf] at h; done)
  · rename_i id ops d
    cases d <;> simp only [acOf] at h
    · obtain ⟨_, _, e⟩ := Option.map_eq_some_iff.1 h; cases e
    · split at h <;> (try split at h) <;> cases h
  · rename_i c1 c2
    simp only [acOf] at h
    split at h
    · rename_i a1 a2 h1 h2; cases h; exact ⟨c1, c2, rfl, h1, h2⟩
    · cases h
  · obtain ⟨_, _, _, e, _⟩ := acOf_cond h; cases e
theorem acOf_block {c : Code} {id : Nat} {x : AC} (h : acOf P N c = some (.block id x)) : ∃ c1, c = .block id c1 ∧ acOf P N c1 = some x := by
  cases c <;> try (simp [acOf] at h; done)
  · rename_i id ops d
    cases d <;> simp only [acOf] at h
    · obtain ⟨_, _, e⟩ := Option.map_eq_some_iff.1 h; cases e
    · split at h <;> (try split at h) <;> cases h
  · simp only [acOf] at h; split at h <;> cases h
  · obtain ⟨_, _, _, e, _⟩ := acOf_cond h; cases e
  · simp only [acOf] at h
    obtain ⟨x', hx', e⟩ := Option.map_eq_some_iff.1 h
    cases e
    exact ⟨_, rfl, hx'⟩
theorem acOf_loop {c : Code} {x : AC} (h : acOf P N c = some (.loop x)) : ∃ c1, c = .loop c1 ∧ acOf P N c1 = some x := by
  cases c <;> try (simp [acOf] at h; done)
  · rename_i id ops d
    cases d <;> simp only [acOf] at h
    · obtain ⟨_, _, e⟩ := Option.map_eq_some_iff.1 h; cases e
    · split at h <;> (try split at h) <;> cases h
  · simp only [acOf] at h; split at h <;> cases h
  · obtain ⟨_, _, _, e, _⟩ := acOf_cond h; cases e
  · simp only [acOf] at h
    obtain ⟨x', hx', e⟩ := Option.map_eq_some_iff.1 h
    cases e
    exact ⟨_, rfl, hx'⟩
theorem acOf_ops {c : Code} {l : List AR} (h : acOf P N c = some (.ops l)) : ∃ id ops, c = .region id ops false ∧ arsOf P N ops (ops.toList.map fun _ => none) ops.toList = some l := by
  cases c <;> try (simp [acOf] at h; done)
  · rename_i id ops d
    cases d <;> simp only [acOf] at h
    · obtain ⟨l', hl, e⟩ := Option.map_eq_some_iff.1 h; cases e; exact ⟨id, ops, rfl, hl⟩
    · split at h <;> (try split at h) <;> cases h
  · simp only [acOf] at h; split at h <;> cases h
  · obtain ⟨_, _, _, e, _⟩ := acOf_cond h; cases e
theorem WpA.seq {x y : AC} (h : ∀ c2, acOf P N c2 = some y → WpA P N w0 pins x (Exit.then (c2.wp P Q) Q) τ σ) : WpA P N w0 pins (.seq x y) Q τ σ := by
  intro c hc φ a w hT hH hE hP
  obtain ⟨c1, c2, rfl, h1, h2⟩ := acOf_seq hc
  exact wp_seq (h c2 h2 c1 h1 φ a w hT hH hE hP)
theorem WpA.seqE (hmix : P.follows .mixedOrders = true) {FT : F3 Ent} (hFT : ∀ k, EntOk P k (get3 k FT)) (n : Nat) {x y : AC} {τ1 : Fr} {σ1 : H} (hx : Dk.exec FT n x τ σ = .nrm τ1 σ1) (h : WpA P N w0 pins y Q τ1 σ1) : WpA P N w0 pins (.seq x y) Q τ σ :=
  .seq fun c2 h2 => .exec hmix hFT n (by rw [hx]; exact h c2 h2)
theorem WpA.block {id : Nat} {x : AC} (h : WpA P N w0 pins x (Exit.inBlock id Q) τ σ) : WpA P N w0 pins (.block id x) Q τ σ := by
  intro c hc φ a w hT hH hE hP
  obtain ⟨c1, rfl, h1⟩ := acOf_block hc
  exact wp_block (h c1 h1 φ a w hT hH hE hP)
theorem WpA.loop {x : AC} (h : LpA P N w0 pins x Q τ σ) : WpA P N w0 pins (.loop x) Q τ σ := by
  intro c hc φ a w hT hH hE hP
  obtain ⟨c1, rfl, h1⟩ := acOf_loop hc
  exact wp_of_loopWp (h c1 h1 φ a w hT hH hE hP)
theorem LpA.step {x : AC} (h : ∀ c, acOf P N c = some x → WpA P N w0 pins x (Exit.then (LoopWp P c Q) Q) τ σ) : LpA P N w0 pins x Q τ σ := fun c hc φ a w hT hH hE hP => loopWp_step (h c hc c hc φ a w hT hH hE hP)
/-! Rows of operations -/
def SL (P : Program) (N : Nat) (w0 : World) (pins : List (Id × Nat × Nat)) (l : List AR) (Q : Exit → Act → World → Prop) (τ : Fr) (σ : H) : Prop :=
  ∀ (ops : Array Oper) (ol : List Oper), arsOf P N ops (ol.map fun _ => none) ol = some l → SQ N w0 pins τ σ (wpList P ops Q ol)
theorem WpA.ops {l : List AR} (h : SL P N w0 pins l Q τ σ) : WpA P N w0 pins (.ops l) Q τ σ := by
  intro c hc φ a w hT hH hE hP
  obtain ⟨id, ops, rfl, h1⟩ := acOf_ops hc
  exact wp_region_list (h ops ops.toList h1 φ a w hT hH hE hP)
theorem SL.run (hmix : P.follows .mixedOrders = true) {FT : F3 Ent} (hFT : ∀ k, EntOk P k (get3 k FT)) (n : Nat) {l : List AR} {τ1 : Fr} {σ1 : H} (hr : runL (callE FT (Dk.exec FT n)) σ.n l τ σ = some (τ1, σ1)) (h : SQ N w0 pins τ1 σ1 (Q .normal)) : SL P N w0 pins l Q τ σ :=
  fun _ _ hl _ _ _ hT hH hE hP => runL_R (calls_R hmix hFT n) hl hT hH (Nat.le_refl _) hr fun _ _ _ h1 h2 h3 => h _ _ _ h1 h2 (hE.fm h3) (hP.mono h3.ext)
theorem arsOf_cons {ops : Array Oper} {ol : List Oper} {ar : AR} {l : List AR} (h : arsOf P N ops (ol.map fun _ => none) ol = some (ar :: l)) : ∃ o ol', ol = o :: ol' ∧ arOf P N ops none o = some ar ∧ arsOf P N ops (ol'.map fun _ => none) ol' = some l := by
  cases ol with
  | nil => cases h
  | cons o ol =>
    simp only [List.map_cons] at h
    unfold arsOf at h
    split at h
    · rename_i ar r h1 h2; cases h; exact ⟨o, ol, rfl, h1, h2⟩
    · cases h
theorem SL.step (hmix : P.follows .mixedOrders = true) {FT : F3 Ent} (hFT : ∀ k, EntOk P k (get3 k FT)) (n : Nat) {o : AR} {l : List AR} {v : AV} {σ1 : H} (hr : o.step (callE FT (Dk.exec FT n)) σ.n τ σ = some (v, σ1)) (h : SL P N w0 pins l Q (dput o.dst v τ) σ1) : SL P N w0 pins (o :: l) Q τ σ := by
  intro ops ol hl φ a w hT hH hE hP
  obtain ⟨op, ol', rfl, h1, h2⟩ := arsOf_cons hl
  obtain ⟨_, _, hd, hN⟩ := want_R hT h1
  refine wpList_step fun K hKK => step_R (m := From σ.n.num) (calls_R hmix hFT n) h1 hT hH ⟨Nat.le_refl _, fun j hj => by cases hj⟩ (fun b h => h) hr fun φ1 v' w1 g1 g2 g3 => hKK _ _ ?_
  exact h ops ol' h2 φ1 _ w1 ((hT.mono g3.ext).put o.dst op.dst hd hN g1) g2 (hE.fm g3) (hP.mono g3.ext)
/-! Ranges over maps -/
theorem ghost_inv {rsv : Option Nat} {o : Oper} {g : Nat} {x : AX} (h : opOf P rsv o = some (.ghost g x)) : ∃ x', axOf x' = some x ∧ ((g = 0 ∧ ∃ t k e, o.op = .range t x' ∧ P.underlying t = some (.map k e)) ∨ (g = 1 ∧ o.op = .next x' false) ∨ (g = 2 ∧ o.op = .entry x')) := by
  unfold opOf at h
  split at h
  all_goals try (repeat' split at h) <;> try (simp at h; done)
  · cases h
    exact ⟨_, ‹axOf _ = some _›, .inl ⟨rfl, _, _, _, ‹o.op = Op.range _ _›, ‹P.underlying _ = some (.map _ _)›⟩⟩
  · rename_i ho
    obtain ⟨_, hx, e⟩ := Option.map_eq_some_iff.1 h
    cases e
    exact ⟨_, hx, .inr (.inl ⟨rfl, ho⟩)⟩
  · rename_i ho
    obtain ⟨_, hx, e⟩ := Option.map_eq_some_iff.1 h
    cases e
    exact ⟨_, hx, .inr (.inr ⟨rfl, ho⟩)⟩
/-- An operation walked by hand: its run, and where the rest goes on. -/
theorem SL.ghost {d : Option I3} {g : Nat} {x : AX} {l : List AR} (h : ∀ φ a w (o : Oper) x', TR φ N τ a → HR φ σ w → Env w0 w → Pin pins φ → axOf x' = some x →
      ((g = 0 ∧ ∃ t k e, o.op = .range t x' ∧ P.underlying t = some (.map k e)) ∨ (g = 1 ∧ o.op = .next x' false) ∨ (g = 2 ∧ o.op = .entry x')) →
      ∃ (K2 : Keep) (pins2 : List (Id × Nat × Nat)) (φ2 : Emb) (u : Value) (y : AV) (σ2 : H) (w2 : World), (execOp a.eval o).run P w = .ok (.value u) w2 ∧ Sub φ φ2 ∧ VR φ2 y u ∧ @HR K2 φ2 σ2 w2 ∧ Env w0 w2 ∧ Pin pins2 φ2 ∧ @SL K2 P N w0 pins2 l Q (dput d y τ) σ2) : SL P N w0 pins (⟨d, none, .ghost g x⟩ :: l) Q τ σ := by
  intro ops ol hl φ a w hT hH hE hP
  obtain ⟨op, ol', rfl, h1, h2⟩ := arsOf_cons hl
  obtain ⟨hwant, hop, hd, hN⟩ := want_R hT h1
  obtain ⟨x', hx, hcase⟩ := ghost_inv hop
  obtain ⟨K3, pins2, φ2, u, y, σ2, w2, hrun, hs, hv, hH2, hE2, hP2, hrest⟩ := h φ a w op x' hT hH hE hP hx hcase
  refine wpList_step fun K hKK => ?_
  rw [hwant, if_pos (show want none τ = true from rfl)]
  unfold Oper.wp
  rw [hrun]
  exact hKK _ _ (hrest ops ol' h2 φ2 _ w2 ((hT.mono hs).put d op.dst hd hN hv) hH2 hE2 hP2)
end
end
end Go.Dk
namespace Go.Dk
open Go Go.RowKit Go.ChangeMaps
noncomputable section
abbrev itO (c since : Nat) (seen : Array Nat) (last : Nat) : Obj := .mapIter (some c) since seen last
theorem HR.bump {K K' : Keep} {φ : Emb} {σ : H} {w w' : World} {n' : Id} {r : Nat} (h : @HR K φ σ w) (hn : σ.n.succ = some n') (hw : ∀ k, k < w.heap.size → w'.heap[k]? = w.heap[k]?)
    (hk : ∀ k o, K'.at' k = some o → w'.heap[k]? = some o ∧ ∀ b x z, σ.blk b = some x → φ b ≠ some (k, z)) : @HR K' (upd φ σ.n (r, 0)) ⟨n', σ.m⟩ w' := by
  have hnum := Id.succ_num hn
  have hf := @HR.fresh K _ _ _ h
  have live : ∀ i y, σ.blk i = some y → i ≠ σ.n := fun i y hy e => by
    obtain ⟨c', z', h1, _⟩ := @HR.blk K _ _ _ h i y hy
    rw [e, hf _ (Nat.le_refl _)] at h1; cases h1
  refine @HR.mk K' _ _ _ (fun i hi => ?_) (fun b x hx => ?_) (fun b b' x x' c z z' hx hx' e e' => ?_) (fun k o ho => ⟨(hk k o ho).1, fun b x z hx => ?_⟩)
  · have hi : n'.num ≤ i.num := hi
    rw [upd_ne _ _ (fun e => by rw [e] at hi; omega)]; exact hf i (by omega)
  · have hx : σ.blk b = some x := hx
    obtain ⟨c, z, h1, h2⟩ := @HR.blk K _ _ _ h b x hx
    refine ⟨c, z, by rw [upd_ne _ _ (live b x hx)]; exact h1, h2.mono (Sub.upd _ (hf _ (Nat.le_refl _))) (hw c h2.lt)⟩
  · rw [upd_ne _ _ (live b x hx)] at e; rw [upd_ne _ _ (live b' x' hx')] at e'
    exact @HR.inj K _ _ _ h b b' x x' c z z' hx hx' e e'
  · rw [upd_ne _ _ (live b x hx)]; exact (hk k o ho).2 b x z hx
theorem HR.turn {K K' : Keep} {φ : Emb} {σ : H} {w w' : World} {r : Nat} (h : @HR K φ σ w) (hw : ∀ k, k ≠ r → w'.heap[k]? = w.heap[k]?) (hr : ∀ b x z, σ.blk b = some x → φ b ≠ some (r, z))
    (hk : ∀ k o, K'.at' k = some o → w'.heap[k]? = some o ∧ ∀ b x z, σ.blk b = some x → φ b ≠ some (k, z)) : @HR K' φ σ w' := by
  refine @HR.mk K' _ _ _ (@HR.fresh K _ _ _ h) (fun b x hx => ?_) (@HR.inj K _ _ _ h) hk
  obtain ⟨c, z, h1, h2⟩ := @HR.blk K _ _ _ h b x hx
  exact ⟨c, z, h1, h2.mono (Sub.refl φ) (hw c fun e => hr b x z hx (e ▸ h1))⟩
variable {P : Program} {N : Nat} {w0 : World} {pins : List (Id × Nat × Nat)} {Q : Exit → Act → World → Prop} {τ : Fr} {σ : H} {ex : Option Nat} {l : List (Nat × Obj)} {d : Option I3} {x : AX} {rest : List AR}
theorem kw_new {r : Nat} {o : Obj} (hr : w0.heap.size ≤ r) : (kw w0 ex ((r, o) :: l)).at' r = some o := by
  show (if r < w0.heap.size then _ else List.lookup r ((r, o) :: l)) = _
  rw [if_neg (by omega), List.lookup_cons]; simp
theorem kw_ne {r k : Nat} {o : Obj} (hne : k ≠ r) : (kw w0 ex ((r, o) :: l)).at' k = (kw w0 ex l).at' k := by
  show (if k < w0.heap.size then _ else List.lookup k ((r, o) :: l)) = (if k < w0.heap.size then _ else List.lookup k l)
  by_cases h : k < w0.heap.size
  · rw [if_pos h, if_pos h]
  · rw [if_neg h, if_neg h, List.lookup_cons]
    have : (k == r) = false := by simp [hne]
    rw [this]
theorem SL.rangeM {b : Id} {c zc clock : Nat} {es : Array MapEntry} {n' : Id} (hev : ev τ x = .map b) (hp : (b, c, zc) ∈ pins) (hc : (kw w0 ex l).at' c = some (.map es clock)) (hn : σ.n.succ = some n')
    (h : ∀ r, w0.heap.size ≤ r → c < r → @SL (kw w0 ex ((r, itO c clock #[] clock) :: l)) P N w0 ((σ.n, r, 0) :: pins) rest Q (dput d (.ptr σ.n 0) τ) ⟨n', σ.m⟩) :
    @SL (kw w0 ex l) P N w0 pins (⟨d, none, .ghost 0 x⟩ :: rest) Q τ σ := by
  refine @SL.ghost (kw w0 ex l) P N w0 pins Q τ σ d 0 x rest fun φ a w o x' hT hH hE hP hx hcase => ?_
  rcases hcase with ⟨_, t, k, e, ho, hu⟩ | ⟨h, _⟩ | ⟨h, _⟩
  · have hv : VR φ (ev τ x) (a.eval x') := by haveI : Keep := kw w0 ex l; exact evR hT hx
    rw [hev] at hv
    generalize hval : a.eval x' = v at hv
    cases hv with
    | map _ c' z hb =>
      have h1 := hP _ hp
      rw [show φ b = some (c, zc) from h1] at hb
      cases hb
      have hkc := (@HR.keep (kw w0 ex l) _ _ _ hH c _ hc).1
      have hclt := (Array.getElem?_eq_some_iff.1 hkc).1
      refine ⟨kw w0 ex ((w.heap.size, itO c clock #[] clock) :: l), (σ.n, w.heap.size, 0) :: pins, upd φ σ.n (w.heap.size, 0), _, _, ⟨n', σ.m⟩, w.alloc (itO c clock #[] clock), by simp [execOp, ho, hval, run_range_map w t k e c es clock hu hkc, Result.andThen],
        Sub.upd _ (@HR.fresh (kw w0 ex l) _ _ _ hH _ (Nat.le_refl _)), .ptr σ.n 0 _ _ (upd_same _ _ _), ?_, ⟨hE.os, hE.tape, hE.output, by have := hE.size; show w0.heap.size ≤ (w.heap.push _).size; rw [Array.size_push]; omega⟩, ?_, h _ hE.size hclt⟩
      · refine @HR.bump (kw w0 ex l) _ φ σ w _ n' _ hH hn (fun k hk => Below.heap_alloc w _ k hk) fun k o hk => ?_
        by_cases e : k = w.heap.size
        · subst e
          rw [kw_new hE.size] at hk; cases hk
          refine ⟨by show (w.heap.push _)[w.heap.size]? = _; simp, fun b x z hb e => ?_⟩
          obtain ⟨c1, z1, h2, h3⟩ := @HR.blk (kw w0 ex l) _ _ _ hH b x hb
          rw [e] at h2; cases h2
          have := h3.lt; omega
        · rw [kw_ne e] at hk
          have h2 := @HR.keep (kw w0 ex l) _ _ _ hH k o hk
          exact ⟨(Below.heap_alloc w _ k (Array.getElem?_eq_some_iff.1 h2.1).1).trans h2.1, h2.2⟩
      · intro p hp'
        rcases List.mem_cons.1 hp' with rfl | hp'
        · exact upd_same _ _ _
        · exact (hP.mono (Sub.upd _ (@HR.fresh (kw w0 ex l) _ _ _ hH _ (Nat.le_refl _)))) p hp'
  · cases h
  · cases h
theorem SL.nextM {ib : Id} {r zr c since last clock : Nat} {seen : Array Nat} {es : Array MapEntry} (KV : MapEntry → AV × AV) (hev : ev τ x = .ptr ib 0) (hp : (ib, r, zr) ∈ pins) (hr : w0.heap.size ≤ r) (hcr : c ≠ r) (hc : (kw w0 ex l).at' c = some (.map es clock))
    (hold : ∀ e ∈ es.toList, e.born < since) (hsc : since ≤ last) (hKV : ∀ e ∈ es.toList, ∀ φ, VR φ (KV e).1 e.key ∧ VR φ (KV e).2 e.val)
    (hDone : (leftOf es seen).size = 0 → @SL (kw w0 ex ((r, itO c since seen last) :: l)) P N w0 pins rest Q (dput d (.tup [.bool false]) τ) σ)
    (hMore : ∀ e ∈ (leftOf es seen).toList, @SL (kw w0 ex ((r, itO c since (seen.push e.born) clock) :: l)) P N w0 pins rest Q (dput d (.tup [.bool true, (KV e).1, (KV e).2]) τ) σ) :
    @SL (kw w0 ex ((r, itO c since seen last) :: l)) P N w0 pins (⟨d, none, .ghost 1 x⟩ :: rest) Q τ σ := by
  refine @SL.ghost (kw w0 ex ((r, itO c since seen last) :: l)) P N w0 pins Q τ σ d 1 x rest fun φ a w o x' hT hH hE hP hx hcase => ?_
  rcases hcase with ⟨h, _⟩ | ⟨_, ho⟩ | ⟨h, _⟩
  · cases h
  · have hv : VR φ (ev τ x) (a.eval x') := by haveI : Keep := kw w0 ex l; exact evR hT hx
    rw [hev] at hv
    generalize hval : a.eval x' = v at hv
    cases hv with
    | ptr _ _ r' z hb =>
      have h1 := hP _ hp
      rw [show φ ib = some (r, zr) from h1] at hb
      cases hb
      have hri := @HR.keep (kw w0 ex ((r, itO c since seen last) :: l)) _ _ _ hH r _ (kw_new hr)
      have hci := @HR.keep (kw w0 ex ((r, itO c since seen last) :: l)) _ _ _ hH c _ ((kw_ne hcr).trans hc)
      rcases run_next_at (P := P) w o.type r c since last seen es clock hri.1 hci.1 hold hsc with ⟨h0, hrun⟩ | ⟨e, he, w1, hw1, hrun⟩
      · exact ⟨_, pins, φ, _, _, σ, w, by simp [execOp, ho, hval, hrun, Result.andThen], Sub.refl φ, .tup _ [.bool false] (.cons _ _ _ _ (.bool _) .nil), hH, hE, hP, hDone h0⟩
      · have hem : e ∈ es.toList := by
          have : e ∈ (leftOf es seen) := by simpa using he
          unfold leftOf at this
          simp at this
          simpa using this.1
        obtain ⟨v1, v2⟩ := hKV e hem φ
        have hrl : r < w.heap.size := (Array.getElem?_eq_some_iff.1 hri.1).1
        have hheap : (setBlock w1 r (itO c since (seen.push e.born) clock)).heap = w.heap.setIfInBounds r (itO c since (seen.push e.born) clock) := by rcases hw1 with rfl | rfl <;> rfl
        refine ⟨kw w0 ex ((r, itO c since (seen.push e.born) clock) :: l), pins, φ, _, _, σ, setBlock w1 r (itO c since (seen.push e.born) clock), by simp [execOp, ho, hval, hrun, Result.andThen], Sub.refl φ,
          .tup [.bool true, (KV e).1, (KV e).2] [.bool true, e.key, e.val] (.cons _ _ _ _ (.bool _) (.cons _ _ _ _ v1 (.cons _ _ _ _ v2 .nil))), ?_, ⟨?_, ?_, ?_, ?_⟩, hP, hMore e he⟩
        · refine @HR.turn (kw w0 ex ((r, itO c since seen last) :: l)) _ φ σ w _ r hH (fun k hk => by rw [hheap, Array.getElem?_setIfInBounds_ne (Ne.symm hk)]) hri.2 fun k o hk => ?_
          by_cases e1 : k = r
          · subst e1
            rw [kw_new hr] at hk; cases hk
            exact ⟨by rw [hheap, Array.getElem?_setIfInBounds_self_of_lt hrl], hri.2⟩
          · rw [kw_ne e1] at hk
            have h2 := @HR.keep (kw w0 ex ((r, itO c since seen last) :: l)) _ _ _ hH k o ((kw_ne e1).trans hk)
            exact ⟨by rw [hheap, Array.getElem?_setIfInBounds_ne (Ne.symm e1)]; exact h2.1, h2.2⟩
        · rcases hw1 with rfl | rfl <;> exact hE.os
        · rcases hw1 with rfl | rfl <;> exact hE.tape
        · rcases hw1 with rfl | rfl <;> exact hE.output
        · rw [hheap]; simpa using hE.size
  · cases h
theorem SL.entryM {ib : Id} {r zr c since clock : Nat} {seen : Array Nat} {es : Array MapEntry} {e : MapEntry} {k v : AV} (hev : ev τ x = .ptr ib 0) (hp : (ib, r, zr) ∈ pins) (hr : w0.heap.size ≤ r) (hcr : c ≠ r) (hc : (kw w0 ex l).at' c = some (.map es clock))
    (he : e ∈ es.toList) (hnd : (es.toList.map (·.born)).Nodup) (hKV : ∀ φ, VR φ k e.key ∧ VR φ v e.val)
    (h : @SL (kw w0 ex ((r, itO c since (seen.push e.born) clock) :: l)) P N w0 pins rest Q (dput d (.tup [k, v]) τ) σ) :
    @SL (kw w0 ex ((r, itO c since (seen.push e.born) clock) :: l)) P N w0 pins (⟨d, none, .ghost 2 x⟩ :: rest) Q τ σ := by
  refine @SL.ghost (kw w0 ex ((r, itO c since (seen.push e.born) clock) :: l)) P N w0 pins Q τ σ d 2 x rest fun φ a w o x' hT hH hE hP hx hcase => ?_
  rcases hcase with ⟨h, _⟩ | ⟨h, _⟩ | ⟨_, ho⟩
  · cases h
  · cases h
  · have hv : VR φ (ev τ x) (a.eval x') := by haveI : Keep := kw w0 ex l; exact evR hT hx
    rw [hev] at hv
    generalize hval : a.eval x' = v at hv
    cases hv with
    | ptr _ _ r' z hb =>
      have h1 := hP _ hp
      rw [show φ ib = some (r, zr) from h1] at hb
      cases hb
      have hri := @HR.keep (kw w0 ex ((r, itO c since (seen.push e.born) clock) :: l)) _ _ _ hH r _ (kw_new hr)
      have hci := @HR.keep (kw w0 ex ((r, itO c since (seen.push e.born) clock) :: l)) _ _ _ hH c _ ((kw_ne hcr).trans hc)
      have hrun := run_entry_at (P := P) w r c since seen es clock e hri.1 hci.1 he hnd
      obtain ⟨v1, v2⟩ := hKV φ
      exact ⟨_, pins, φ, _, _, σ, w, by simp [execOp, ho, hval, hrun, Result.andThen], Sub.refl φ, .tup _ [e.key, e.val] (.cons _ _ _ _ v1 (.cons _ _ _ _ v2 .nil)), hH, hE, hP, h⟩
/-- What is left, one entry less. -/
theorem left_perm {es : Array MapEntry} {seen : Array Nat} {e : MapEntry} (hnd : (es.toList.map (·.born)).Nodup) (he : e ∈ (leftOf es seen).toList) : ((leftOf es seen).toList).Perm (e :: (leftOf es (seen.push e.born)).toList) := by
  unfold leftOf at he ⊢
  rw [Array.toList_filter] at he ⊢
  rw [Array.toList_filter]
  have h2 : es.toList.filter (fun x => !(seen.push e.born).contains x.born) = (es.toList.filter (fun x => !seen.contains x.born)).filter (fun x => !(x.born == e.born)) := by
    rw [List.filter_filter]
    congr 1
    funext x
    rw [Array.contains_push]
    cases seen.contains x.born <;> cases (x.born == e.born) <;> rfl
  rw [h2]
  have hnd2 : ((es.toList.filter (fun x => !seen.contains x.born)).map (·.born)).Nodup := (List.filter_sublist.map _).nodup hnd
  generalize es.toList.filter (fun x => !seen.contains x.born) = L at he hnd2
  clear h2 hnd
  induction L with
  | nil => cases he
  | cons y L ih =>
    rw [List.map_cons, List.nodup_cons] at hnd2
    rcases List.mem_cons.1 he with rfl | he'
    · rw [List.filter_cons, if_neg (by simp)]
      rw [List.filter_eq_self.2 fun z hz => by
        have : z.born ≠ e.born := fun e1 => hnd2.1 (by rw [← e1]; exact List.mem_map_of_mem hz)
        simpa using this]
    · have hne : y.born ≠ e.born := fun e1 => hnd2.1 (by rw [e1]; exact List.mem_map_of_mem he')
      rw [List.filter_cons, if_pos (by simpa using hne)]
      exact ((ih he' hnd2.2).cons y).trans (.swap _ _ _)
end
end Go.Dk
namespace Go.Dk
open Go Go.RowKit
noncomputable section
def lawN (g : List AV → H → Option (Blk × (Id → AV))) (args : List AV) (σ : H) : Option (AV × H) :=
  Option.rec (motive := fun _ => Option (AV × H)) none (fun p => σ.new none (fun b σ' => some (p.2 b, σ')) p.1) (g args σ)
theorem lawN_some {g : List AV → H → Option (Blk × (Id → AV))} {args : List AV} {σ : H} {x : Blk} {mk : Id → AV} {n' : Id} (hg : g args σ = some (x, mk)) (hn : σ.n.succ = some n') : lawN g args σ = some (mk σ.n, ⟨n', set5 σ.n (some x) σ.m⟩) := by
  unfold lawN
  rw [hg]
  show Option.rec (motive := fun _ => Option (AV × H)) none (fun n' => some (mk σ.n, ⟨n', set5 σ.n (some x) σ.m⟩)) σ.n.succ = _
  rw [hn]
theorem ent_new [Keep] {P : Program} {k : I3} {g : List AV → H → Option (Blk × (Id → AV))} (hok : CallsOk P k.num)
    (h : ∀ φ σ w args args' x mk, GOk φ → HR φ σ w → VRs φ args args' → g args σ = some (x, mk) → Calls P k.num args'.toArray w fun e w' => ∃ c z v', e = .returned v' ∧ w.heap.size ≤ c ∧ (∀ φ', BR φ' x c z w') ∧
      (∀ φ' b, Sub φ φ' → φ' b = some (c, z) → VR φ' (mk b) v') ∧ HR φ σ w' ∧ Env w w' ∧ ∀ k, k < w.heap.size → (∀ b x c z, σ.blk b = some x → φ b = some (c, z) → c ≠ k) → w'.heap[k]? = w.heap[k]?) : EntOk P k (.law (lawN g)) := by
  intro args σ v σ' hf
  unfold lawN at hf
  cases hg : g args σ with
  | none => rw [hg] at hf; cases hf
  | some p =>
    obtain ⟨x, mk⟩ := p
    rw [hg] at hf
    obtain ⟨n', hn, he⟩ := H.new_eq (σ := σ) (k := fun b σ' => some (mk b, σ')) hf (by simp)
    cases he
    have hnum := Id.succ_num hn
    refine ⟨hok, fun φ w args' hG hH hv => (h φ σ w args args' x mk hG hH hv hg).mono ?_⟩
    rintro e w' ⟨c, z, v', rfl, hc, hbr, hvr, hH', hE, hkept⟩
    have hf := hH.fresh σ.n (Nat.le_refl _)
    have hs : Sub φ (upd φ σ.n (c, z)) := Sub.upd _ hf
    have img : ∀ b x c z, σ.blk b = some x → φ b = some (c, z) → c < w.heap.size := fun b x c z hb e => by
      obtain ⟨c1, z1, h1, h2⟩ := hH.blk b x hb
      rw [e] at h1; cases h1; exact h2.lt
    obtain ⟨h1, _⟩ := HR.add (m := From σ.n.num) (σ' := ⟨n', set5 σ.n (some x) σ.m⟩) (w' := w') hH' σ.n x c z hf (Nat.le_refl _) (by show σ.n.num ≤ n'.num; omega) (by show σ.n.num < n'.num; omega) (fun j => H.blk_new σ n' x j)
      (fun i y z hi e => by have := img i y c z hi e; omega) (fun _ _ _ => rfl) (Nat.le_refl _) rfl rfl rfl (hbr _)
      (fun _ => by cases e : Keep.at' c with
        | none => rfl
        | some o => have := (Array.getElem?_eq_some_iff.1 (hH.keep c o e).1).1; omega)
    refine ⟨_, v', rfl, hvr _ _ hs (upd_same _ _ _), h1, hs, hE.os, hE.tape, hE.output, hE.size, hkept, fun b y c1 z1 hb e hlt => ?_, fun b h0 h2 => ?_, by show σ.n.num ≤ n'.num; omega⟩
    · rw [H.blk_new] at hb
      by_cases eb : σ.n = b
      · rw [← eb, upd_same] at e; cases e; omega
      · rw [if_neg eb] at hb
        rw [upd_ne _ _ (Ne.symm eb)] at e
        exact ⟨b, y, z1, hb, e⟩
    · by_cases eb : b = σ.n
      · subst eb; exact Nat.le_refl _
      · rw [upd_ne _ _ eb] at h2; exact absurd h0 h2
/-! From empty memory -/
def id64 : Id := ⟨.d0, .d0, .d1, .d0, .d0⟩
def σE : H := ⟨id64, rep5 none⟩
theorem σE_blk (b : Id) : σE.blk b = none := get_rep5 b none
/-- The variables' places alone. -/
def glob (φ : Emb) : Emb := fun i => if i.num < 64 then φ i else none
theorem glob_GOk {φ : Emb} (h : GOk φ) : GOk (glob φ) := fun b hb => by unfold glob; rw [if_pos hb]; exact h b hb
theorem HR.empty [K : Keep] {φ : Emb} {w : World} (hk : ∀ k o, Keep.at' k = some o → w.heap[k]? = some o) : HR (glob φ) σE w :=
  ⟨fun i hi => by unfold glob; rw [if_neg]; have : σE.n.num = 64 := rfl; omega, fun b x hb => by (rw [σE_blk] at hb; cases hb), fun b b' x x' c z z' hb => by (rw [σE_blk] at hb; cases hb), fun k o ho => ⟨hk k o ho, fun b x z hb => by (rw [σE_blk] at hb; cases hb)⟩⟩
theorem kw_old {w : World} {k : Nat} {o : Obj} (h : (kw w none []).at' k = some o) : w.heap[k]? = some o := by
  replace h : (if k < w.heap.size then (if (none : Option Nat) = some k then none else w.heap[k]?) else List.lookup k ([] : List (Nat × Obj))) = some o := h
  by_cases hk : k < w.heap.size
  · rw [if_pos hk, if_neg (by simp)] at h; exact h
  · rw [if_neg hk] at h; cases h
theorem kw_all {w : World} {k : Nat} (l : List (Nat × Obj)) (hk : k < w.heap.size) : (kw w none l).at' k = w.heap[k]? := by
  show (if k < w.heap.size then (if (none : Option Nat) = some k then none else w.heap[k]?) else _) = _
  rw [if_pos hk, if_neg (by simp)]
theorem kw_kept {w w' : World} {φ : Emb} {σ : H} {l : List (Nat × Obj)} (h : @HR (kw w none l) φ σ w') {k : Nat} (hk : k < w.heap.size) : w'.heap[k]? = w.heap[k]? := by
  have e := Array.getElem?_eq_getElem hk
  exact (@HR.keep (kw w none l) _ _ _ h k _ ((kw_all l hk).trans e)).1.trans e.symm
/-- The new blocks lie behind the old ones. -/
theorem kw_new_lt {w w' : World} {φ : Emb} {σ : H} {l : List (Nat × Obj)} (h : @HR (kw w none l) φ σ w') {b : Id} {x : Blk} {c z : Nat} (hb : σ.blk b = some x) (e : φ b = some (c, z)) : w.heap.size ≤ c := by
  by_cases hc : c < w.heap.size
  · exact absurd e ((@HR.keep (kw w none l) _ _ _ h c _ ((kw_all l hc).trans (Array.getElem?_eq_getElem hc))).2 b x z hb)
  · omega
theorem calls_fresh {P : Program} (hmix : P.follows .mixedOrders = true) {FT : F3 Ent} (hFT : ∀ [Keep] k, EntOk P k (get3 k FT)) {n : Nat} {k : I3} {args : List AV} {v : AV} {σ' : H} (hc : callN FT n k args σE = some (v, σ')) {φ : Emb} (hG : GOk φ) {w : World} {args' : List Value} (hv : VRs (glob φ) args args') :
    Calls P k.num args'.toArray w fun e w' => ∃ φ' v', e = .returned v' ∧ VR φ' v v' ∧ @HR (kw w none []) φ' σ' w' ∧ Env w w' := by
  letI : Keep := kw w none []
  refine (callN_R (P := P) hmix hFT hc (φ := glob φ) (w := w) (args' := args') (glob_GOk hG) (HR.empty fun k o h => kw_old h) hv).mono ?_
  rintro e w' ⟨φ', v', h1, h2, h3, h4⟩
  exact ⟨φ', v', h1, h2, h3, (Env.refl w).fm h4⟩
theorem HR.old [K : Keep] {φ : Emb} {σ : H} {w w' : World} (h : HR φ σ w) (hk : ∀ k, k < w.heap.size → w'.heap[k]? = w.heap[k]?) : HR φ σ w' :=
  ⟨h.fresh, fun b x hb => let ⟨c, z, h1, h2⟩ := h.blk b x hb; ⟨c, z, h1, h2.mono (Sub.refl φ) (hk c h2.lt)⟩, h.inj, fun k o ho => ⟨(hk k (Array.getElem?_eq_some_iff.1 (h.keep k o ho).1).1).trans (h.keep k o ho).1, (h.keep k o ho).2⟩⟩
end
end Go.Dk
namespace Go.Dk
open Go
noncomputable section
variable {FT : F3 Ent} {cf : I3 → List AV → H → Option (AV × H)} {base : Id} {τ : Fr} {σ : H} {d : Option I3}
def Xn (x : X) (R : Fr → H → Prop) : Prop := ∃ τ σ, x = .nrm τ σ ∧ R τ σ
def Rn (cf : I3 → List AV → H → Option (AV × H)) (base : Id) (l : List AR) (τ : Fr) (σ : H) (R : Fr → H → Prop) : Prop := ∃ τ' σ', runL cf base l τ σ = some (τ', σ') ∧ R τ' σ'
theorem Xn.mono {x : X} {R R' : Fr → H → Prop} (h : Xn x R) (k : ∀ τ σ, R τ σ → R' τ σ) : Xn x R' := let ⟨τ, σ, h1, h2⟩ := h; ⟨τ, σ, h1, k τ σ h2⟩
theorem Xn.seq {n : Nat} {a b : AC} {R : Fr → H → Prop} (h : Xn (exec FT (n + 1) a τ σ) fun τ1 σ1 => Xn (exec FT (n + 1) b τ1 σ1) R) : Xn (exec FT (n + 1) (.seq a b) τ σ) R := by
  obtain ⟨τ1, σ1, h1, τ2, σ2, h2, h3⟩ := h
  refine ⟨τ2, σ2, ?_, h3⟩
  show X.rec (motive := fun _ => X) .no (exec FT (n + 1) b) (fun id τ σ => .brk id τ σ) (fun τ σ => .ret τ σ) (exec FT (n + 1) a τ σ) = _
  rw [h1]; exact h2
theorem Xn.block {n id : Nat} {a : AC} {R : Fr → H → Prop} (h : Xn (exec FT (n + 1) a τ σ) R) : Xn (exec FT (n + 1) (.block id a) τ σ) R := by
  obtain ⟨τ1, σ1, h1, h3⟩ := h
  refine ⟨τ1, σ1, ?_, h3⟩
  show X.rec (motive := fun _ => X) .no (fun τ σ => .nrm τ σ) (fun id' τ σ => ite8 (Nat.beq id' id) (.nrm τ σ) (.brk id' τ σ)) (fun τ σ => .ret τ σ) (exec FT (n + 1) a τ σ) = _
  rw [h1]
theorem exec_block_brk {n id : Nat} {a : AC} {τ1 : Fr} {σ1 : H} (h : exec FT (n + 1) a τ σ = .brk id τ1 σ1) : exec FT (n + 1) (.block id a) τ σ = .nrm τ1 σ1 := by
  show X.rec (motive := fun _ => X) .no (fun τ σ => .nrm τ σ) (fun id' τ σ => ite8 (Nat.beq id' id) (.nrm τ σ) (.brk id' τ σ)) (fun τ σ => .ret τ σ) (exec FT (n + 1) a τ σ) = _
  rw [h]
  show ite8 (Nat.beq id id) _ _ = _
  rw [Nat.beq_refl]
theorem exec_cond {n : Nat} {x : AX} {a b : AC} {t : Bool} (hb : ev τ x = .bool t) : exec FT (n + 1) (.cond x a b) τ σ = ite8 t (exec FT (n + 1) a τ σ) (exec FT (n + 1) b τ σ) := by
  show (ev τ x).asBool .no (fun t => ite8 t (exec FT (n + 1) a τ σ) (exec FT (n + 1) b τ σ)) = _
  rw [hb]; rfl
theorem Xn.condT {n : Nat} {x : AX} {a b : AC} {R : Fr → H → Prop} (hb : ev τ x = .bool true) (h : Xn (exec FT (n + 1) a τ σ) R) : Xn (exec FT (n + 1) (.cond x a b) τ σ) R := by
  unfold Xn; rw [exec_cond hb]; exact h
theorem Xn.condF {n : Nat} {x : AX} {a b : AC} {R : Fr → H → Prop} (hb : ev τ x = .bool false) (h : Xn (exec FT (n + 1) b τ σ) R) : Xn (exec FT (n + 1) (.cond x a b) τ σ) R := by
  unfold Xn; rw [exec_cond hb]; exact h
theorem Xn.skip {n : Nat} {R : Fr → H → Prop} (h : R τ σ) : Xn (exec FT (n + 1) .skip τ σ) R := ⟨τ, σ, rfl, h⟩
theorem Xn.ops {n : Nat} {l : List AR} {R : Fr → H → Prop} (h : Rn (callE FT (exec FT n)) σ.n l τ σ R) : Xn (exec FT (n + 1) (.ops l) τ σ) R := by
  obtain ⟨τ1, σ1, h1, h2⟩ := h
  refine ⟨τ1, σ1, ?_, h2⟩
  show xOut (runL (callE FT (exec FT n)) σ.n l τ σ) = _
  rw [h1]; rfl
/-- A region whose order is open, without blocks made early and without reads asked again. -/
theorem Xn.reg0 {n : Nat} {l : List AR} {R : Fr → H → Prop} (h : Rn (callE FT (exec FT n)) σ.n l τ σ R) : Xn (exec FT (n + 1) (.reg 0 [] l) τ σ) R := by
  obtain ⟨τ1, σ1, h1, h2⟩ := h
  refine ⟨τ1, σ1, ?_, h2⟩
  show xOut (runL (callE FT (exec FT n)) σ.n l τ ⟨σ.n, σ.m⟩) = _
  have : (⟨σ.n, σ.m⟩ : H) = σ := by cases σ; rfl
  rw [this, h1]; rfl
theorem Rn.nil {R : Fr → H → Prop} (h : R τ σ) : Rn cf base [] τ σ R := ⟨τ, σ, rfl, h⟩
theorem Rn.cons {o : AR} {l : List AR} {v : AV} {σ1 : H} {R : Fr → H → Prop} (hs : o.step cf base τ σ = some (v, σ1)) (h : Rn cf base l (dput o.dst v τ) σ1 R) : Rn cf base (o :: l) τ σ R := by
  obtain ⟨τ1, σ2, h1, h2⟩ := h
  refine ⟨τ1, σ2, ?_, h2⟩
  show o.run cf none (runL cf base l) base τ σ = _
  haveI : Keep := ⟨fun _ => none⟩
  rw [AR.run_eq, hs]; exact h1
theorem step_ok {op : AO} {v : AV} {σ1 : H} (h : op.run base τ σ = .ok v σ1) : AR.step cf ⟨d, none, op⟩ base τ σ = some (v, σ1) := by
  show (match op.run base τ σ with | .ok v σ' => some (v, σ') | .call k args => cf k args σ | .no => none) = _
  rw [h]
theorem step_call {op : AO} {k : I3} {args : List AV} {v : AV} {σ1 : H} (h : op.run base τ σ = .call k args) (hc : cf k args σ = some (v, σ1)) : AR.step cf ⟨d, none, op⟩ base τ σ = some (v, σ1) := by
  show (match op.run base τ σ with | .ok v σ' => some (v, σ') | .call k args => cf k args σ | .no => none) = _
  rw [h]; exact hc
def Xb (x : X) (id : Nat) (R : Fr → H → Prop) : Prop := ∃ τ σ, x = .brk id τ σ ∧ R τ σ
theorem Xb.mono {x : X} {id : Nat} {R R' : Fr → H → Prop} (h : Xb x id R) (k : ∀ τ σ, R τ σ → R' τ σ) : Xb x id R' := let ⟨τ, σ, h1, h2⟩ := h; ⟨τ, σ, h1, k τ σ h2⟩
theorem Xb.seqN {n id : Nat} {a b : AC} {R : Fr → H → Prop} (h : Xn (exec FT (n + 1) a τ σ) fun τ1 σ1 => Xb (exec FT (n + 1) b τ1 σ1) id R) : Xb (exec FT (n + 1) (.seq a b) τ σ) id R := by
  obtain ⟨τ1, σ1, h1, τ2, σ2, h2, h3⟩ := h
  refine ⟨τ2, σ2, ?_, h3⟩
  show X.rec (motive := fun _ => X) .no (exec FT (n + 1) b) (fun id τ σ => .brk id τ σ) (fun τ σ => .ret τ σ) (exec FT (n + 1) a τ σ) = _
  rw [h1]; exact h2
theorem Xb.seqB {n id : Nat} {a b : AC} {R : Fr → H → Prop} (h : Xb (exec FT (n + 1) a τ σ) id R) : Xb (exec FT (n + 1) (.seq a b) τ σ) id R := by
  obtain ⟨τ2, σ2, h2, h3⟩ := h
  refine ⟨τ2, σ2, ?_, h3⟩
  show X.rec (motive := fun _ => X) .no (exec FT (n + 1) b) (fun id τ σ => .brk id τ σ) (fun τ σ => .ret τ σ) (exec FT (n + 1) a τ σ) = _
  rw [h2]
theorem Xb.condF {n id : Nat} {x : AX} {a b : AC} {R : Fr → H → Prop} (hb : ev τ x = .bool false) (h : Xb (exec FT (n + 1) b τ σ) id R) : Xb (exec FT (n + 1) (.cond x a b) τ σ) id R := by
  unfold Xb; rw [exec_cond hb]; exact h
theorem Xb.exit {n id : Nat} {R : Fr → H → Prop} (h : R τ σ) : Xb (exec FT (n + 1) (.exit id) τ σ) id R := ⟨τ, σ, rfl, h⟩
theorem Xb.loop {n id : Nat} {a : AC} {R : Fr → H → Prop} (h : Xb (exec FT (n + 1) a τ σ) id R) : Xb (exec FT (n + 1) (.loop a) τ σ) id R := by
  obtain ⟨τ2, σ2, h2, h3⟩ := h
  refine ⟨τ2, σ2, ?_, h3⟩
  show X.rec (motive := fun _ => X) .no (fun τ σ => exec FT n (.loop a) τ σ) (fun id τ σ => .brk id τ σ) (fun τ σ => .ret τ σ) (exec FT (n + 1) a τ σ) = _
  rw [h2]
theorem Xb.again {n id : Nat} {a : AC} {R : Fr → H → Prop} (h : Xn (exec FT (n + 1) a τ σ) fun τ1 σ1 => Xb (exec FT n (.loop a) τ1 σ1) id R) : Xb (exec FT (n + 1) (.loop a) τ σ) id R := by
  obtain ⟨τ1, σ1, h1, τ2, σ2, h2, h3⟩ := h
  refine ⟨τ2, σ2, ?_, h3⟩
  show X.rec (motive := fun _ => X) .no (fun τ σ => exec FT n (.loop a) τ σ) (fun id τ σ => .brk id τ σ) (fun τ σ => .ret τ σ) (exec FT (n + 1) a τ σ) = _
  rw [h1]; exact h2
theorem Xn.blockB {n id : Nat} {a : AC} {R : Fr → H → Prop} (h : Xb (exec FT (n + 1) a τ σ) id R) : Xn (exec FT (n + 1) (.block id a) τ σ) R := by
  obtain ⟨τ1, σ1, h1, h2⟩ := h
  exact ⟨τ1, σ1, exec_block_brk h1, h2⟩
theorem ble_lt {i n : Nat} (h : i < n) : Nat.ble (Nat.succ i) n = true := Nat.ble_eq_true_of_le h
theorem ble_ge {i n : Nat} (h : n ≤ i) : Nat.ble (Nat.succ i) n = false := by
  cases e : Nat.ble (Nat.succ i) n with
  | false => rfl
  | true => have := Nat.le_of_ble_eq_true e; omega
theorem below_lt {i n : Nat} {q : IntKind} {k : Nat → OR} (h : i < n) : below (.int q (.ofNat i)) n k = k i := by
  show ite8 (Nat.ble (Nat.succ i) n) (k i) .no = _
  rw [ble_lt h]
theorem step_idxA {x i : AX} {b : Id} {o n es es' j : Nat} {cap : Option Nat} {q : IntKind} (hx : ev τ x = .slice b o n es cap) (hi : ev τ i = .int q (.ofNat j)) (hj : j < n) : AR.step cf ⟨d, none, .idxA none es' x i⟩ base τ σ = some (.ptr b (o + j * es'), σ) := by
  refine step_ok ?_
  show hIdxA none es' x i base τ σ = _
  unfold hIdxA
  rw [hx, hi]
  exact below_lt hj
theorem step_idxAA {x i : AX} {b : Id} {o n es' j : Nat} {q : IntKind} (hx : ev τ x = .ptr b o) (hi : ev τ i = .int q (.ofNat j)) (hj : j < n) : AR.step cf ⟨d, none, .idxA (some n) es' x i⟩ base τ σ = some (.ptr b (o + j * es'), σ) := by
  refine step_ok ?_
  show hIdxA (some n) es' x i base τ σ = _
  unfold hIdxA
  rw [hx, hi]
  exact below_lt hj
theorem step_loadN {x : AX} {b : Id} {o m n : Nat} {t : T AV} {l : List AV} (hx : ev τ x = .ptr b o) (hb : σ.blk b = some (.cells t m)) (ht : t.take n o = some l) : AR.step cf ⟨d, none, .load (some n) x⟩ base τ σ = some (.agg l, σ) := by
  refine step_ok ?_
  show hLoad (some n) x base τ σ = _
  unfold hLoad
  rw [hx]
  show Option.rec (motive := fun _ => OR) .no (fun x => Blk.rec (motive := fun _ => OR) (fun c _ => Option.rec (motive := fun _ => OR) .no (fun l => .ok (.agg l) σ) (c.take n o)) (fun _ _ => .no) (fun _ _ => .no) x) (σ.blk b) = _
  rw [hb]
  show Option.rec (motive := fun _ => OR) .no (fun l => .ok (.agg l) σ) (t.take n o) = _
  rw [ht]
theorem step_load1 {x : AX} {b : Id} {o m : Nat} {t : T AV} {v : AV} (hx : ev τ x = .ptr b o) (hb : σ.blk b = some (.cells t m)) (ht : t.get o = some v) : AR.step cf ⟨d, none, .load none x⟩ base τ σ = some (v, σ) := by
  refine step_ok ?_
  show hLoad none x base τ σ = _
  unfold hLoad
  rw [hx]
  show Option.rec (motive := fun _ => OR) .no (fun x => Blk.rec (motive := fun _ => OR) (fun c _ => ok? σ (c.get o)) (fun _ _ => .no) (fun _ _ => .no) x) (σ.blk b) = _
  rw [hb]
  show ok? σ (t.get o) = _
  rw [ht]; rfl
theorem step_store {n : Nat} {x y : AX} {b : Id} {o m : Nat} {t t' : T AV} {l : List AV} (hx : ev τ x = .ptr b o) (hy : (ev τ y).asCells OR.no (fun l => ite8 (Nat.beq (len8 l) n) (σ.row .no (fun c m => Option.rec (motive := fun _ => OR) .no (fun c' => .ok uv (σ.put b (some (.cells c' m)))) (T.over l o c)) b) .no) =
      ite8 (Nat.beq (len8 l) n) (σ.row .no (fun c m => Option.rec (motive := fun _ => OR) .no (fun c' => .ok uv (σ.put b (some (.cells c' m)))) (T.over l o c)) b) .no) (hl : l.length = n) (hb : σ.blk b = some (.cells t m)) (ht : T.over l o t = some t') :
    AR.step cf ⟨d, none, .store n x y⟩ base τ σ = some (uv, σ.put b (some (.cells t' m))) := by
  refine step_ok ?_
  show hStore n x y base τ σ = _
  unfold hStore
  rw [hx]
  refine Eq.trans hy ?_
  rw [show Nat.beq (len8 l) n = true by rw [len8_eq, hl]; exact Nat.beq_refl n]
  show Option.rec (motive := fun _ => OR) .no (fun x => Blk.rec (motive := fun _ => OR) (fun c m => Option.rec (motive := fun _ => OR) .no (fun c' => .ok uv (σ.put b (some (.cells c' m)))) (T.over l o c)) (fun _ _ => .no) (fun _ _ => .no) x) (σ.blk b) = _
  rw [hb]
  show Option.rec (motive := fun _ => OR) .no (fun c' => .ok uv (σ.put b (some (.cells c' m)))) (T.over l o t) = _
  rw [ht]
def lookV (z : AV) (ok : Bool) (r : Option AV) : AV := match r with | some v => if ok then .tup [v, .bool true] else v | none => if ok then .tup [z, .bool false] else z
theorem step_look {kt : KT} {z : AV} {ok : Bool} {x i : AX} {b : Id} {l : List (AV × AV)} {r : Option AV} (hk : keyEq kt (ev τ i) (ev τ i) = some true) (hx : ev τ x = .map b) (hb : σ.blk b = some (.map kt l)) (hr : keyAt kt (ev τ i) l = some r) :
    AR.step cf ⟨d, none, .look kt z ok x i⟩ base τ σ = some (lookV z ok r, σ) := by
  refine step_ok ?_
  show hLook kt z ok x i base τ σ = _
  unfold hLook
  rw [hk, hx]
  simp only [hb]
  rw [if_neg (by simp), hr]
  cases r <;> rfl
theorem step_upd {kt : KT} {m i x : AX} {b : Id} {l : List (AV × AV)} {r : Option AV} (hk : keyEq kt (ev τ i) (ev τ i) = some true) (hx : ev τ m = .map b) (hb : σ.blk b = some (.map kt l)) (hr : keyAt kt (ev τ i) l = some r) :
    AR.step cf ⟨d, none, .upd kt m i x⟩ base τ σ = some (uv, σ.put b (some (.map kt (keyPut kt (ev τ i) (ev τ x) l)))) := by
  refine step_ok ?_
  show hUpd kt m i x base τ σ = _
  unfold hUpd
  rw [hk, hx]
  simp only [hb]
  rw [if_neg (by simp), hr]
/-- A call's end, in code that comes to its end or hands back. -/
def Xr (x : X) (R : Fr → H → Prop) : Prop := ∃ τ σ, x = .ret τ σ ∧ R τ σ
theorem Xr.seqN {n : Nat} {a b : AC} {R : Fr → H → Prop} (h : Xn (exec FT (n + 1) a τ σ) fun τ1 σ1 => Xr (exec FT (n + 1) b τ1 σ1) R) : Xr (exec FT (n + 1) (.seq a b) τ σ) R := by
  obtain ⟨τ1, σ1, h1, τ2, σ2, h2, h3⟩ := h
  refine ⟨τ2, σ2, ?_, h3⟩
  show X.rec (motive := fun _ => X) .no (exec FT (n + 1) b) (fun id τ σ => .brk id τ σ) (fun τ σ => .ret τ σ) (exec FT (n + 1) a τ σ) = _
  rw [h1]; exact h2
theorem Xr.ret {n : Nat} {R : Fr → H → Prop} (h : R τ σ) : Xr (exec FT (n + 1) .ret τ σ) R := ⟨τ, σ, rfl, h⟩
theorem callN_code {n : Nat} {k : I3} {ps : List I3} {body : AC} {rs : List RV} {args : List AV} {τ0 : Fr} {p : AV × H} (hk : get3 k FT = .code ps body rs) (hb : bindA ps args emptyF = some τ0) (h : Xr (exec FT n body τ0 σ) fun τ1 σ1 => resX rs τ1 σ1 = some p) : callN FT n k args σ = some p := by
  obtain ⟨τ1, σ1, h1, h2⟩ := h
  unfold callN callE
  rw [hk]
  show Option.rec (motive := fun _ => Option (AV × H)) none (fun τ => X.rec (motive := fun _ => Option (AV × H)) none (resX rs) (fun _ _ _ => none) (resX rs) (exec FT n body τ σ)) (bindA ps args emptyF) = _
  rw [hb]
  show X.rec (motive := fun _ => Option (AV × H)) none (resX rs) (fun _ _ _ => none) (resX rs) (exec FT n body τ0 σ) = _
  rw [h1]; exact h2
theorem take_some {α : Type} {t : T α} (g : Nat → α) : ∀ (n o : Nat), (∀ j, o ≤ j → j < o + n → t.get j = some (g j)) → t.take n o = some ((List.range' o n).map g)
  | 0, o, _ => rfl
  | n + 1, o, h => by
    show Option.rec (motive := fun _ => Option (List α)) none (fun v => Option.rec (motive := fun _ => Option (List α)) none (fun l => some (v :: l)) (t.take n (Nat.succ o))) (t.get o) = _
    rw [h o (Nat.le_refl _) (by omega), take_some g n (o + 1) fun j h1 h2 => h j (by omega) (by omega)]
    rfl
theorem over_some {α : Type} : ∀ (l : List α) (o : Nat) (t : T α), (∀ j, o ≤ j → j < o + l.length → (t.get j).isSome = true) → T.over l o t = some (T.lay l o t)
  | [], o, t, _ => rfl
  | x :: l, o, t, h => by
    show Option.rec (motive := fun _ => Option (T α)) none (fun _ => T.over l (Nat.succ o) (t.set x o)) (t.get o) = _
    have h0 := h o (Nat.le_refl _) (by simp)
    cases hg : t.get o with
    | none => rw [hg] at h0; cases h0
    | some y =>
      show T.over l (o + 1) (t.set x o) = _
      rw [over_some l (o + 1) (t.set x o) fun j h1 h2 => by
        rw [T.get_set]
        by_cases e : o = j
        · rw [if_pos e]; rfl
        · rw [if_neg e]; exact h j (by omega) (by simp; omega)]
      rfl
theorem lay_append {α : Type} : ∀ (a b : List α) (o : Nat) (t : T α), T.lay (a ++ b) o t = T.lay b (o + a.length) (T.lay a o t)
  | [], b, o, t => rfl
  | x :: a, b, o, t => by
    show T.lay (a ++ b) (o + 1) (t.set x o) = _
    rw [lay_append a b (o + 1) (t.set x o)]
    rw [List.length_cons, show o + 1 + a.length = o + (a.length + 1) by omega]
    rfl
theorem lay_nil_get {α : Type} (l : List α) (k : Nat) : (T.lay l 0 (.nil : T α)).get k = l[k]? := by
  rw [T.lay_get]
  by_cases h : k < l.length
  · rw [if_pos (by omega)]; rfl
  · rw [if_neg (by omega), List.getElem?_eq_none (by omega)]; rfl
end
end Go.Dk
namespace Go.Dk
open Go Go.RowKit
noncomputable section
variable {P : Program} {N : Nat} {w0 : World} {pins : List (Id × Nat × Nat)} {Q : Exit → Act → World → Prop} {τ : Fr} {σ : H}
theorem WpA.execN [Keep] (hmix : P.follows .mixedOrders = true) {FT : F3 Ent} (hFT : ∀ k, EntOk P k (get3 k FT)) {n : Nat} {x : AC} {R : Fr → H → Prop} (hx : Xn (Dk.exec FT n x τ σ) R) (h : ∀ τ1 σ1, R τ1 σ1 → SQ N w0 pins τ1 σ1 (Q .normal)) : WpA P N w0 pins x Q τ σ := by
  obtain ⟨τ1, σ1, h1, h2⟩ := hx
  exact .exec hmix hFT n (by rw [h1]; exact h τ1 σ1 h2)
theorem WpA.execB [Keep] (hmix : P.follows .mixedOrders = true) {FT : F3 Ent} (hFT : ∀ k, EntOk P k (get3 k FT)) {n id : Nat} {x : AC} {R : Fr → H → Prop} (hx : Xb (Dk.exec FT n x τ σ) id R) (h : ∀ τ1 σ1, R τ1 σ1 → SQ N w0 pins τ1 σ1 (Q (.exit id))) : WpA P N w0 pins x Q τ σ := by
  obtain ⟨τ1, σ1, h1, h2⟩ := hx
  exact .exec hmix hFT n (by rw [h1]; exact h τ1 σ1 h2)
theorem WpA.execR [Keep] (hmix : P.follows .mixedOrders = true) {FT : F3 Ent} (hFT : ∀ k, EntOk P k (get3 k FT)) {n : Nat} {x : AC} {R : Fr → H → Prop} (hx : Xr (Dk.exec FT n x τ σ) R) (h : ∀ τ1 σ1, R τ1 σ1 → SQ N w0 pins τ1 σ1 (Q .ret)) : WpA P N w0 pins x Q τ σ := by
  obtain ⟨τ1, σ1, h1, h2⟩ := hx
  exact .exec hmix hFT n (by rw [h1]; exact h τ1 σ1 h2)
theorem WpA.seqX [Keep] (hmix : P.follows .mixedOrders = true) {FT : F3 Ent} (hFT : ∀ k, EntOk P k (get3 k FT)) {n : Nat} {x y : AC} {R : Fr → H → Prop} (hx : Xn (Dk.exec FT n x τ σ) R) (h : ∀ τ1 σ1, R τ1 σ1 → WpA P N w0 pins y Q τ1 σ1) : WpA P N w0 pins (.seq x y) Q τ σ :=
  .seq fun c2 h2 => .execN hmix hFT hx fun τ1 σ1 h1 => h τ1 σ1 h1 c2 h2
theorem SQ.code [Keep] {c2 : Code} {ac : AC} (hc : acOf P N c2 = some ac) (h : WpA P N w0 pins ac Q τ σ) : SQ N w0 pins τ σ (Exit.then (c2.wp P Q) Q .normal) := h c2 hc
/-- What is asked of the places where a function hands back. -/
def RetQ (N : Nat) (w0 : World) (rs : List RV) (Post : Ending → World → Prop) (Q : Exit → Act → World → Prop) : Prop :=
  ∀ (K : Keep) (pins : List (Id × Nat × Nat)) (τ : Fr) (σ : H) (v : AV), resX rs τ σ = some (v, σ) → (∀ φ w v', VR φ v v' → @HR K φ σ w → Env w0 w → Pin pins φ → Post (.returned v') w) → @SQ K N w0 pins τ σ (Q .ret)
theorem calls_walk [K : Keep] {k : FuncId} {ps : List I3} {b : AC} {rs : List RV} (he : entOf P k = some (.code ps b rs)) {φ : Emb} {w : World} {args : List AV} {args' : List Value} {Post : Ending → World → Prop} (hb : bindA ps args emptyF = some τ) (hG : GOk φ) (hH : HR φ σ w) (hv : VRs φ args args') (hP : Pin pins φ)
    (h : ∀ N Q, RetQ N w rs Post Q → WpA P N w pins b Q τ σ) : Calls P k args'.toArray w Post := by
  unfold entOf at he
  split at he
  · cases he
  · rename_i fn hfn
    split at he
    · cases he
    · rename_i c hbody
      split at he
      · rename_i ac rs' hac hrs
        cases hm : maxTmp fn with
        | false => rw [hm] at he; cases he
        | true =>
        rw [hm, if_pos rfl] at he
        cases he
        unfold maxTmp at hm
        rw [Bool.and_eq_true, decide_eq_true_eq, decide_eq_true_eq] at hm
        have hT := enter_TR (nt := fn.ntmps) hm.2 hm.1 hb hG hv
        refine calls_of_wp hfn hbody (h fn.ntmps _ ?_ c hac φ _ w hT hH (Env.refl w) hP)
        intro K pins τ σ v hr hpost φ a w' hT hH hE hP
        obtain ⟨_, v', h4, h5⟩ := @results_R K P fn.ntmps φ σ w' τ a hT hH fn rs v σ hrs hr
        exact ⟨hT.defers, v', h4, hpost φ w' v' h5 hH hE hP⟩
      · cases he
/-- One old block alone is in sight; all others are held. -/
theorem HR.only [K0 : Keep] {φ : Emb} {w : World} {b : Id} {x x2 : Blk} {c z : Nat} (h : HR φ σ w) (hb : σ.blk b = some x) (hφ : φ b = some (c, z)) (hbr : ∀ φ', BR φ x c z w → BR φ' x2 c z w) :
    @HR (kw w (some c) []) (Dk.ren [(id64, b)] φ) ⟨⟨.d0, .d0, .d1, .d0, .d1⟩, set5 id64 (some x2) (rep5 none)⟩ w := by
  have blk : ∀ i y, (⟨⟨.d0, .d0, .d1, .d0, .d1⟩, set5 id64 (some x2) (rep5 none)⟩ : H).blk i = some y → i = id64 ∧ y = x2 := fun i y hy => by
    replace hy : get5 i (set5 id64 (some x2) (rep5 none)) = some y := hy
    rw [get_set5] at hy
    by_cases e : id64 = i
    · rw [if_pos e] at hy; cases hy; exact ⟨e.symm, rfl⟩
    · rw [if_neg e, get_rep5] at hy; cases hy
  have ha : Dk.ren [(id64, b)] φ id64 = some (c, z) := hφ
  have h1 : @HR K0 (Dk.ren [(id64, b)] φ) ⟨⟨.d0, .d0, .d1, .d0, .d1⟩, set5 id64 (some x2) (rep5 none)⟩ w := HR.ren (σ2 := ⟨⟨.d0, .d0, .d1, .d0, .d1⟩, set5 id64 (some x2) (rep5 none)⟩) h [(id64, b)] (by simp [renOk, id64, Id.num, D8.num]) fun i y hy => by
    obtain ⟨rfl, rfl⟩ := blk i y hy
    refine ⟨b, x, by rfl, hb, fun c' z' e hbr' => ?_⟩
    rw [hφ] at e; cases e
    exact hbr _ hbr'
  refine @HR.rekeep K0 (kw w (some c) []) _ _ _ h1 fun k o hk => ?_
  replace hk : (if k < w.heap.size then (if (some c : Option Nat) = some k then none else w.heap[k]?) else List.lookup k ([] : List (Nat × Obj))) = some o := hk
  by_cases hlt : k < w.heap.size
  · rw [if_pos hlt] at hk
    by_cases e : c = k
    · rw [if_pos (by rw [e])] at hk; cases hk
    · rw [if_neg (by simpa using e)] at hk
      refine ⟨hk, fun i y z' hi hi2 => e ?_⟩
      obtain ⟨rfl, rfl⟩ := blk i y hi
      rw [ha] at hi2; cases hi2; rfl
  · rw [if_neg hlt] at hk; cases hk
/-- What is held but for one block. -/
theorem kw1_kept {w w' : World} {φ : Emb} {σ : H} {p k : Nat} (h : @HR (kw w (some p) []) φ σ w') (hk : k < w.heap.size) (hne : k ≠ p) : w'.heap[k]? = w.heap[k]? := by
  have e := Array.getElem?_eq_getElem hk
  refine (@HR.keep (kw w (some p) []) _ _ _ h k _ ?_).1.trans e.symm
  show (if k < w.heap.size then (if some p = some k then none else w.heap[k]?) else _) = _
  rw [if_pos hk, if_neg (by simpa using Ne.symm hne)]; exact e
theorem kw1_lt {w w' : World} {φ : Emb} {σ : H} {p : Nat} (h : @HR (kw w (some p) []) φ σ w') {b b' : Id} {x x' : Blk} {c z z' : Nat} (hb : σ.blk b = some x) (e : φ b = some (c, z)) (hb' : σ.blk b' = some x') (e' : φ b' = some (p, z')) (hne : b ≠ b') : w.heap.size ≤ c := by
  by_cases hc : c < w.heap.size
  · by_cases hp : c = p
    · subst hp; exact absurd (@HR.inj (kw w (some c) []) _ _ _ h b b' x x' c z z' hb hb' e e') hne
    · have e1 := Array.getElem?_eq_getElem hc
      refine absurd e ((@HR.keep (kw w (some p) []) _ _ _ h c (w.heap[c]) ?_).2 b x z hb)
      show (if c < w.heap.size then (if some p = some c then none else w.heap[c]?) else _) = _
      rw [if_pos hc, if_neg (by simpa using Ne.symm hp)]; exact e1
  · omega
/-- All is as it was but for one block, which holds the same. -/
theorem HR.back [K0 : Keep] {φ : Emb} {σ : H} {w w' : World} {b : Id} {x : Blk} {c z : Nat} (h : HR φ σ w) (hb : σ.blk b = some x) (hφ : φ b = some (c, z)) (hbr : BR φ x c z w') (hk : ∀ k, k < w.heap.size → k ≠ c → w'.heap[k]? = w.heap[k]?) : HR φ σ w' := by
  refine ⟨h.fresh, fun i y hi => ?_, h.inj, fun k o ho => ⟨?_, (h.keep k o ho).2⟩⟩
  · obtain ⟨c1, z1, h1, h2⟩ := h.blk i y hi
    refine ⟨c1, z1, h1, ?_⟩
    by_cases e : c1 = c
    · subst e
      have := h.inj i b y x c1 z1 z hi hb h1 hφ
      subst this
      rw [hφ] at h1; cases h1
      rw [hb] at hi; cases hi
      exact hbr
    · exact h2.mono (Sub.refl φ) (hk c1 h2.lt e)
  · obtain ⟨h1, h2⟩ := h.keep k o ho
    exact (hk k (Array.getElem?_eq_some_iff.1 h1).1 fun e => h2 b x z hb (by rw [hφ, e])).trans h1
/-! Values without places -/
def Free (x : AV) : Prop := ∀ φ φ' v, VR φ x v → VR φ' x v
theorem Free.int (k : IntKind) (n : Int) : Free (.int k n) := fun _ _ v h => by cases h; exact .int _ _
theorem Free.bool (b : Bool) : Free (.bool b) := fun _ _ v h => by cases h; exact .bool _
theorem VRs.free {φ φ' : Emb} : ∀ {l : List AV} {vs : List Value}, (∀ x ∈ l, Free x) → VRs φ l vs → VRs φ' l vs
  | [], _, _, h => by cases h; exact .nil
  | x :: l, _, hf, h => by
    cases h with
    | cons _ v _ r h t => exact .cons _ _ _ _ (hf x (by simp) _ _ _ h) (VRs.free (fun y hy => hf y (by simp [hy])) t)
theorem Free.agg {l : List AV} (h : ∀ x ∈ l, Free x) : Free (.agg l) := fun _ _ v hv => by
  cases hv with
  | agg _ l' h2 h1 => exact .agg _ _ (VRs.free h h2) h1
theorem BR.freeCells {φ φ' : Emb} {t : T AV} {m c z : Nat} {w : World} (hf : ∀ k x, t.get k = some x → Free x) (h : BR φ (.cells t m) c z w) : BR φ' (.cells t m) c z w := by
  obtain ⟨cur, e, h1, h2, h3, h4⟩ := h
  refine ⟨cur, e, h1, h2, h3, fun k x hk => ?_⟩
  obtain ⟨g1, g2, v, g3, g4⟩ := h4 k x hk
  exact ⟨g1, g2, v, g3, hf k x hk _ _ _ g4⟩
theorem BR.freeMap {φ φ' : Emb} {kt : KT} {l : List (AV × AV)} {c z : Nat} {w : World} (hf : ∀ p ∈ l, Free p.1 ∧ Free p.2) (h : BR φ (.map kt l) c z w) : BR φ' (.map kt l) c z w := by
  obtain ⟨es, clock, l', h1, h2, h3, h4, h5⟩ := h
  refine ⟨es, clock, l', h1, h2, VRs.free (fun x hx => ?_) h3, VRs.free (fun x hx => ?_) h4, h5⟩
  · obtain ⟨p, hp, rfl⟩ := List.mem_map.1 hx; exact (hf p (h2.mem_iff.1 hp)).1
  · obtain ⟨p, hp, rfl⟩ := List.mem_map.1 hx; exact (hf p (h2.mem_iff.1 hp)).2
theorem BR.permMap {φ : Emb} {kt : KT} {l l2 : List (AV × AV)} {c z : Nat} {w : World} (hp : l.Perm l2) (h : BR φ (.map kt l) c z w) : BR φ (.map kt l2) c z w := by
  obtain ⟨es, clock, l', h1, h2, h3, h4, h5, h6, h7⟩ := h
  exact ⟨es, clock, l', h1, h2.trans hp, h3, h4, (hp.pairwise_iff (fun {x y} hxy => by (haveI : Keep := ⟨fun _ => none⟩; rw [keyEq_comm]; exact hxy))).1 h5, fun p hp' => h6 p (hp.mem_iff.2 hp'), h7⟩
theorem VR.renMap {r : List (Id × Id)} {φ : Emb} {b b0 : Id} {v : Value} (h : VR φ (.map b0) v) (e : ren r φ b = φ b0) : VR (ren r φ) (.map b) v := by
  cases h with | map _ c z h => exact .map _ _ _ (e.trans h)
theorem VR.renPtr {r : List (Id × Id)} {φ : Emb} {b b0 : Id} {o : Nat} {v : Value} (h : VR φ (.ptr b0 o) v) (e : ren r φ b = φ b0) : VR (ren r φ) (.ptr b o) v := by
  cases h with | ptr _ _ c z h => exact .ptr _ _ _ _ (e.trans h)
theorem VR.renSlice {r : List (Id × Id)} {φ : Emb} {b b0 : Id} {o n es : Nat} {v : Value} (h : VR φ (.slice b0 o n es none) v) (e : ren r φ b = φ b0) : VR (ren r φ) (.slice b o n es none) v := by
  cases h with | sliceU _ _ _ _ cap c z h hn hz => exact .sliceU _ _ _ _ _ _ _ (e.trans h) hn hz
end
end Go.Dk
