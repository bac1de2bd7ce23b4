/-
  table.build and table.Root as laws.
-/
import Derived.Test.YtfjnaaobbgeoeaaGreatDoorJd
set_option maxRecDepth 100000
set_option linter.all false
namespace Go.Dk.Run
open Go Go.Dk Go.RowKit Go.Proofs
noncomputable section
def FTd : F3 Ent := set3 i28 (.law (lawN g28)) (set3 i29 (.law (lawN g29)) (rep3 .none))
theorem okFTd [Keep] : ∀ k, EntOk Tryz.prog k (get3 k FTd) := ok_set (ok_set ok_nil law29) law28
abbrev id68 : Id := ⟨.d0, .d0, .d1, .d0, .d4⟩
abbrev id69 : Id := ⟨.d0, .d0, .d1, .d0, .d5⟩
def b19a : AC := acL (acL (acR (acL (acR (acR (bodyOf e19))))))
def b19b : AC := acL (acL (acR (acL (acR (acR (acR (acR (bodyOf e19))))))))
def keyV (c : Nat) : Value := .agg #[.int .i64 (.ofNat (c + 1)), .int .i64 (.ofNat 0), .int .i64 (.ofNat 0)]
theorem keyVR (φ : Emb) (c : Nat) : VR φ (keyA c) (keyV c) := .agg _ [.int .i64 (.ofNat (c + 1)), .int .i64 (.ofNat 0), .int .i64 (.ofNat 0)] (.cons _ _ _ _ (.int _ _) (.cons _ _ _ _ (.int _ _) (.cons _ _ _ _ (.int _ _) .nil))) (by intro x hx; simp at hx; rcases hx with rfl | rfl <;> rfl)
def sgnV (v : Value) : Nat := match v with | .agg a => (match a.toList with | .int _ (.ofNat (n + 1)) :: _ => n | _ => 0) | _ => 0
theorem sgnV_key (c : Nat) : sgnV (keyV c) = c := rfl
/-! The first loop -/
def longL (D : List Nat) : List (AV × AV) := D.map fun c => (ii c, ii 1)
theorem long_at {D : List Nat} {c : Nat} (h : c ∉ D) : keyAt (.prim .i) (ii c) (longL D) = some none := by
  unfold longL; rw [keyAt_map (fun _ => ii 1) c D, if_neg h]
theorem long_put {D : List Nat} {c : Nat} (h : c ∉ D) : keyPut (.prim .i) (ii c) (ii 1) (longL D) = longL (D ++ [c]) := by
  haveI : Keep := ⟨fun _ => none⟩
  rw [keyPut_new (long_at h)]; unfold longL; rw [List.map_append]; rfl
theorem longL_free (D : List Nat) : ∀ p ∈ longL D, Free p.1 ∧ Free p.2 := fun p hp => by
  obtain ⟨c, _, rfl⟩ := List.mem_map.1 hp; exact ⟨Free.int _ _, Free.int _ _⟩
def σ19 (D : List Nat) : H := ⟨id67, set5 id65 (some (.map (.prim .i) (longL D))) (rep5 none)⟩
def regs19 : List (I3 × AV) := [(⟨.d0, .d0, .d0⟩, .map id64), (⟨.d0, .d0, .d3⟩, .map id65), (⟨.d0, .d1, .d5⟩, .ptr id66 0)]
structure S19 (D : List Nat) (τ : Fr) (σ : H) : Prop where
  r0 : get3 ⟨.d0, .d0, .d0⟩ τ = .map id64
  r3 : get3 ⟨.d0, .d0, .d3⟩ τ = .map id65
  r13 : get3 ⟨.d0, .d1, .d5⟩ τ = .ptr id66 0
  b65 : σ.blk id65 = some (.map (.prim .i) (longL D))
section
variable {N : Nat} {w : World} {Q : Exit → Act → World → Prop}
theorem re19 [Keep] {cm zm r : Nat} {D : List Nat} {τ : Fr} {σ : H} {R : Act → World → Prop} (h : S19 D τ σ) (k : ∀ τ0, SQ N w [(id66, r, 0), (id64, cm, zm)] (sets regs19 τ0) (σ19 D) R) : SQ N w [(id66, r, 0), (id64, cm, zm)] τ σ R := by
  refine SQ.re [(id64, id64), (id65, id65), (id66, id66)] _ (σ19 D) regs19 (by kernel_rfl) (fun p hp => ?_) (fun b x hb => ?_) (fun p hp φ v hv => ?_) k
  · simp only [List.mem_cons, List.not_mem_nil, or_false] at hp
    rcases hp with rfl | rfl
    · exact ⟨id66, rfl, by simp⟩
    · exact ⟨id64, rfl, by simp⟩
  · replace hb : get5 b (set5 id65 (some (.map (.prim .i) (longL D))) (rep5 none)) = some x := hb
    rw [get_set5, get_rep5] at hb
    by_cases e : id65 = b
    · rw [if_pos e] at hb; cases hb; subst e; exact ⟨id65, _, rfl, h.b65, fun φ w c z hbr => hbr.freeMap (longL_free D)⟩
    · rw [if_neg e] at hb; cases hb
  · simp only [regs19, List.mem_cons, List.not_mem_nil, or_false] at hp
    rcases hp with rfl | rfl | rfl
    · rw [show get3 _ τ = _ from h.r0] at hv; exact hv.renMap rfl
    · rw [show get3 _ τ = _ from h.r3] at hv; exact hv.renMap rfl
    · rw [show get3 _ τ = _ from h.r13] at hv; exact hv.renPtr rfl
theorem re19W [Keep] {cm zm r : Nat} {D : List Nat} {τ : Fr} {σ : H} {ac : AC} (h : S19 D τ σ) (k : ∀ τ0, WpA Tryz.prog N w [(id66, r, 0), (id64, cm, zm)] ac Q (sets regs19 τ0) (σ19 D)) : WpA Tryz.prog N w [(id66, r, 0), (id64, cm, zm)] ac Q τ σ := fun c hc => re19 h fun τ0 => k τ0 c hc
theorem re19L [Keep] {cm zm r : Nat} {D : List Nat} {τ : Fr} {σ : H} {ac : AC} (h : S19 D τ σ) (k : ∀ τ0, LpA Tryz.prog N w [(id66, r, 0), (id64, cm, zm)] ac Q (sets regs19 τ0) (σ19 D)) : LpA Tryz.prog N w [(id66, r, 0), (id64, cm, zm)] ac Q τ σ := fun c hc => re19 h fun τ0 => k τ0 c hc
/-- What a round does behind its entry: signs, and the count. -/
theorem tail19 {D : List Nat} {c n : Nat} {τ : Fr} {m : F5 (Option Blk)} (hc : Cs.contains c = true) (hD : c ∉ D) (h0 : get3 ⟨.d0, .d0, .d0⟩ τ = .map id64) (h3 : get3 ⟨.d0, .d0, .d3⟩ τ = .map id65) (h13 : get3 ⟨.d0, .d1, .d5⟩ τ = .ptr id66 0) (h4 : get3 ⟨.d0, .d0, .d4⟩ τ = .ptr id67 0)
    (h67 : get5 id67 m = some (.cells (T.lay [ii (c + 1), ii 0, ii 0] 0 .nil) 3)) (h65 : get5 id65 m = some (.map (.prim .i) (longL D))) :
    Xn (exec FTd (n + 2) (acR (acL (acR (acR b19a)))) τ ⟨id68, m⟩) fun τ' σ' => S19 (D ++ [c]) τ' σ' := by
  rw [← sets_eq [(⟨.d0, .d0, .d0⟩, .map id64), (⟨.d0, .d0, .d3⟩, .map id65), (⟨.d0, .d1, .d5⟩, .ptr id66 0), (⟨.d0, .d0, .d4⟩, .ptr id67 0)] τ (by simp [h0, h3, h13, h4])]
  generalize τ = τ0
  refine Xn.seq (Xn.ops (Rn.cons (v := keyA c) (step_loadN rfl h67 rfl) (Rn.cons (step_call (v := .slice id68 0 1 1 none) (σ1 := ⟨id69, set5 id68 (some (cellsB [ii c])) m⟩) rfl ?_) (Rn.cons rfl (Rn.nil ?_)))))
  · show lawN g28 [keyA c] _ = _
    refine lawN_some (x := cellsB [ii c]) (mk := fun b => .slice b 0 1 1 none) ?_ rfl
    show (if Cs.contains c = true then some (cellsB [ii c], fun b => AV.slice b 0 1 1 none) else none) = _
    rw [if_pos hc]
  refine Xn.reg0 (Rn.cons rfl (Rn.cons rfl (Rn.cons rfl (Rn.cons (v := ii c) rfl (Rn.cons rfl (Rn.cons rfl (Rn.cons rfl (Rn.cons (v := ii c) rfl (Rn.cons (step_look (keyEq_self c) rfl h65 (long_at hD)) (Rn.cons rfl (Rn.cons rfl (Rn.cons (v := ii 1) rfl (Rn.cons (step_upd (keyEq_self c) rfl h65 (long_at hD)) (Rn.nil ?_))))))))))))))
  refine ⟨rfl, rfl, rfl, ?_⟩
  show some (Blk.map (.prim .i) (keyPut (.prim .i) (ii c) (ii 1) (longL D))) = _
  rw [long_put hD]
/-- The map's entries: what is asked of them. -/
structure Ents (es : Array MapEntry) (clock : Nat) : Prop where
  stm : Stm es clock
  key : ∀ e ∈ es.toList, e.key = keyV (sgnV e.key) ∧ Cs.contains (sgnV e.key) = true
  val : ∀ e ∈ es.toList, ∀ b, e.val ≠ .bool b
theorem loop19a {cm zm r clock : Nat} {es : Array MapEntry} (hE : Ents es clock) (hr : w.heap.size ≤ r) (hcr : cm ≠ r) (hcm : w.heap[cm]? = some (.map es clock))
    (hend : ∀ (seen : Array Nat) (D : List Nat), D.Perm Cs → ∀ τ0, @SQ (kw w none [(r, itO cm clock seen clock)]) N w [(id66, r, 0), (id64, cm, zm)] (sets regs19 τ0) (σ19 D) (Q (.exit 0))) :
    ∀ (k : Nat) (seen : Array Nat) (D : List Nat), (leftOf es seen).size = k → (D ++ (leftOf es seen).toList.map fun e => sgnV e.key).Perm Cs → ∀ τ0,
      @LpA (kw w none [(r, itO cm clock seen clock)]) Tryz.prog N w [(id66, r, 0), (id64, cm, zm)] b19a Q (sets regs19 τ0) (σ19 D) := by
  have hclt := (Array.getElem?_eq_some_iff.1 hcm).1
  have hkc : (kw w none []).at' cm = some (.map es clock) := (kw_all [] hclt).trans hcm
  intro k
  induction k with
  | zero =>
    intro seen D hk hp τ0
    letI : Keep := kw w none [(r, itO cm clock seen clock)]
    have h0 : (leftOf es seen).toList = [] := by rw [← List.length_eq_zero_iff]; simpa using hk
    rw [h0, List.map_nil, List.append_nil] at hp
    refine LpA.step fun c hc => WpA.seq fun c2 hc2 => WpA.ops ?_
    refine SL.nextM (fun e => (keyA (sgnV e.key), junk)) rfl (List.mem_cons_self ..) hr hcr hkc hE.stm.1 (Nat.le_refl _) (fun e he φ => ⟨by rw [(hE.key e he).1]; exact keyVR φ _, .junk _ (hE.val e he)⟩) (fun _ => ?_) fun e he => ?_
    · refine SL.run mixed okFTd 4 rfl ?_
      refine SQ.code hc2 ?_
      exact WpA.execB mixed okFTd (n := 6) (id := 0) (R := fun τ σ => S19 D τ σ) (Xb.seqB (Xb.condF rfl (Xb.exit ⟨rfl, rfl, rfl, rfl⟩))) fun τ1 σ1 h1 => re19 h1 fun τ2 => hend seen D hp τ2
    · rw [h0] at he; cases he
  | succ k ih =>
    intro seen D hk hp τ0
    letI : Keep := kw w none [(r, itO cm clock seen clock)]
    refine LpA.step fun c hc => WpA.seq fun c2 hc2 => WpA.ops ?_
    refine SL.nextM (fun e => (keyA (sgnV e.key), junk)) rfl (List.mem_cons_self ..) hr hcr hkc hE.stm.1 (Nat.le_refl _) (fun e he φ => ⟨by rw [(hE.key e he).1]; exact keyVR φ _, .junk _ (hE.val e he)⟩) (fun h0 => by omega) fun e he => ?_
    have hem : e ∈ es.toList := by
      have : e ∈ (leftOf es seen) := by simpa using he
      unfold leftOf at this
      simp at this
      simpa using this.1
    obtain ⟨hk1, hk2⟩ := hE.key e hem
    have hlp := left_perm hE.stm.2 he
    have hD : sgnV e.key ∉ D := fun hin => by
      have h1 := hp.nodup_iff.2 Cs_nodup
      rw [List.nodup_append] at h1
      exact h1.2.2 _ hin _ (List.mem_map_of_mem (f := fun e => sgnV e.key) he) rfl
    letI K2 : Keep := kw w none [(r, itO cm clock (seen.push e.born) clock)]
    refine SL.run mixed okFTd 4 rfl ?_
    refine SQ.code hc2 ?_
    refine WpA.seqX mixed okFTd (n := 6) (R := fun τ σ => S19 D τ σ) (Xn.condT rfl (Xn.skip ⟨rfl, rfl, rfl, rfl⟩)) fun τ1 σ1 h1 => ?_
    refine re19W h1 fun τ2 => ?_
    refine WpA.block ?_
    refine WpA.seq fun c3 hc3 => WpA.ops ?_
    refine SL.entryM (e := e) (k := keyA (sgnV e.key)) (v := junk) rfl (List.mem_cons_self ..) hr hcr hkc hem hE.stm.2 (fun φ => ⟨by rw [hk1]; exact keyVR φ _, .junk _ (hE.val e hem)⟩) ?_
    refine SL.run mixed okFTd 4 rfl ?_
    refine SQ.code hc3 ?_
    refine WpA.execN mixed okFTd (n := 6) (tail19 (n := 4) hk2 hD rfl rfl rfl rfl rfl rfl) fun τ3 σ3 h3 => ?_
    refine re19 h3 fun τ4 => ?_
    refine ih (seen.push e.born) (D ++ [sgnV e.key]) ?_ ?_ τ4 c hc
    · have := hlp.length_eq; simp at this; omega
    · refine List.Perm.trans ?_ hp
      rw [List.append_assoc]
      exact List.Perm.append_left D (by simpa using (hlp.map fun e => sgnV e.key).symm)
end
end
end Go.Dk.Run
namespace Go.Dk.Run
open Go Go.Dk Go.RowKit Go.Proofs
noncomputable section
def pv (D : List Nat) : AV := match D with | [] => .nils | _ :: _ => .slice id67 0 D.length 2 none
def pm (D : List Nat) : F5 (Option Blk) := match D with | [] => rep5 none | _ :: _ => set5 id67 (some (.cells (prT D) (2 * D.length))) (rep5 none)
def σ19b (D : List Nat) : H := ⟨id68, pm D⟩
def regs19b (D : List Nat) : List (I3 × AV) := [(⟨.d0, .d0, .d0⟩, .map id64), (⟨.d0, .d4, .d1⟩, .ptr id66 0), (⟨.d0, .d0, .d6⟩, pv D)]
structure S19b (b : Id) (D : List Nat) (τ : Fr) (σ : H) : Prop where
  r0 : get3 ⟨.d0, .d0, .d0⟩ τ = .map id64
  r33 : get3 ⟨.d0, .d4, .d1⟩ τ = .ptr id66 0
  r6 : get3 ⟨.d0, .d0, .d6⟩ τ = .slice b 0 D.length 2 none
  blk : σ.blk b = some (.cells (prT D) (2 * D.length))
theorem step_app {cf : I3 → List AV → H → Option (AV × H)} {τ : Fr} {σ : H} {base : Id} {d : Option I3} {es bytes n m : Nat} {s x : AX} {b n' b2 : Id} {o2 e2 : Nat} {c2 : Option Nat} {t : T AV} {xs : List AV} (hs : ev τ s = .slice b 0 n es none) (hx : ev τ x = .slice b2 o2 1 e2 c2) (hxs : firstN es 1 (.slice b2 o2 1 e2 c2) σ = some xs) (hb : σ.blk b = some (.cells t m)) (hm : m = n * es) (hbd : (n + 1) * bytes ≤ 2 ^ 40 ∧ n + 1 ≤ 2 ^ 40) (hn : σ.n.succ = some n') :
    AR.step cf ⟨d, none, .app es bytes s x⟩ base τ σ = some (.slice σ.n 0 (n + 1) es none, ⟨n', set5 σ.n (some (.cells (T.lay xs m t) (m + len8 xs))) (σ.put b none).m⟩) := by
  refine step_ok ?_
  show hApp es bytes s x base τ σ = _
  unfold hApp
  rw [hs, hx]
  simp only [lenA, hxs]
  rw [if_neg (by simp), if_neg (fun h => h hbd), if_neg (by omega), if_pos trivial]
  show Option.rec (motive := fun _ => OR) .no (fun x => Blk.rec (motive := fun _ => OR) (fun t m => if m = n * es then (σ.put b none).new .no (fun b' σ => .ok (.slice b' 0 (n + 1) es none) σ) (.cells (T.lay xs m t) (m + len8 xs)) else .no) (fun _ _ => .no) (fun _ _ => .no) x) (σ.blk b) = _
  rw [hb]
  show (if m = n * es then (σ.put b none).new OR.no (fun b' σ => OR.ok (.slice b' 0 (n + 1) es none) σ) (.cells (T.lay xs m t) (m + len8 xs)) else OR.no) = _
  rw [if_pos hm]
  show Option.rec (motive := fun _ => OR) .no (fun n' => .ok (.slice σ.n 0 (n + 1) es none) ⟨n', set5 σ.n (some (.cells (T.lay xs m t) (m + len8 xs))) (σ.put b none).m⟩) σ.n.succ = _
  rw [hn]
theorem prT_snoc (D : List Nat) (c : Nat) : prT (D ++ [c]) = T.lay [ii c, ii 1] (2 * D.length) (prT D) := by
  unfold prT
  have : prs (D ++ [c]) = prs D ++ [ii c, ii 1] := by simp [prs]
  rw [this, lay_append, prs_len, Nat.zero_add]
section
variable {N : Nat} {w : World} {Q : Exit → Act → World → Prop}
theorem re19b [Keep] {cm zm r c2 z2 : Nat} {b : Id} {D : List Nat} {τ : Fr} {σ : H} {R : Act → World → Prop} (hb67 : b = id67 ∨ b = id69) (h : S19b b D τ σ) (hD : D ≠ []) (k : ∀ τ0, SQ N w [(id66, r, 0), (id65, c2, z2), (id64, cm, zm)] (sets (regs19b D) τ0) (σ19b D) R) : SQ N w [(id66, r, 0), (id65, c2, z2), (id64, cm, zm)] τ σ R := by
  cases D with
  | nil => exact absurd rfl hD
  | cons c D =>
    refine SQ.re [(id64, id64), (id65, id65), (id66, id66), (id67, b)] _ (σ19b (c :: D)) (regs19b (c :: D)) (by rcases hb67 with rfl | rfl <;> kernel_rfl) (fun p hp => ?_) (fun i x hi => ?_) (fun p hp φ v hv => ?_) k
    · simp only [List.mem_cons, List.not_mem_nil, or_false] at hp
      rcases hp with rfl | rfl | rfl
      · exact ⟨id66, rfl, by simp⟩
      · exact ⟨id65, rfl, by simp⟩
      · exact ⟨id64, rfl, by simp⟩
    · replace hi : get5 i (set5 id67 (some (.cells (prT (c :: D)) (2 * (c :: D).length))) (rep5 none)) = some x := hi
      rw [get_set5, get_rep5] at hi
      by_cases e : id67 = i
      · rw [if_pos e] at hi; cases hi; subst e; exact ⟨b, _, rfl, h.blk, fun φ w c z hbr => hbr.freeCells (prT_free _)⟩
      · rw [if_neg e] at hi; cases hi
    · simp only [regs19b, List.mem_cons, List.not_mem_nil, or_false] at hp
      rcases hp with rfl | rfl | rfl
      · rw [show get3 _ τ = _ from h.r0] at hv; exact hv.renMap rfl
      · rw [show get3 _ τ = _ from h.r33] at hv; exact hv.renPtr rfl
      · rw [show get3 _ τ = _ from h.r6] at hv; exact VR.renSlice (b0 := b) hv rfl
theorem re19bW [Keep] {cm zm r c2 z2 : Nat} {D : List Nat} {τ : Fr} {σ : H} {ac : AC} (h0 : D = [] → get3 ⟨.d0, .d0, .d0⟩ τ = .map id64 ∧ get3 ⟨.d0, .d4, .d1⟩ τ = .ptr id66 0 ∧ get3 ⟨.d0, .d0, .d6⟩ τ = .nils) (h : D ≠ [] → S19b id67 D τ σ) (k : ∀ τ0, WpA Tryz.prog N w [(id66, r, 0), (id65, c2, z2), (id64, cm, zm)] ac Q (sets (regs19b D) τ0) (σ19b D)) : WpA Tryz.prog N w [(id66, r, 0), (id65, c2, z2), (id64, cm, zm)] ac Q τ σ := fun cd hcd => by
  cases D with
  | cons c D => exact re19b (.inl rfl) (h (by simp)) (by simp) fun τ0 => k τ0 cd hcd
  | nil =>
    obtain ⟨g1, g2, g3⟩ := h0 rfl
    refine SQ.re [(id64, id64), (id65, id65), (id66, id66)] _ (σ19b []) (regs19b []) (by kernel_rfl) (fun p hp => ?_) (fun i x hi => ?_) (fun p hp φ v hv => ?_) fun τ0 => k τ0 cd hcd
    · simp only [List.mem_cons, List.not_mem_nil, or_false] at hp
      rcases hp with rfl | rfl | rfl
      · exact ⟨id66, rfl, by simp⟩
      · exact ⟨id65, rfl, by simp⟩
      · exact ⟨id64, rfl, by simp⟩
    · replace hi : get5 i (rep5 (none : Option Blk)) = some x := hi
      rw [get_rep5] at hi; cases hi
    · simp only [regs19b, List.mem_cons, List.not_mem_nil, or_false] at hp
      rcases hp with rfl | rfl | rfl
      · rw [show get3 _ τ = _ from g1] at hv; exact hv.renMap rfl
      · rw [show get3 _ τ = _ from g2] at hv; exact hv.renPtr rfl
      · rw [show get3 _ τ = _ from g3] at hv; cases hv; exact .nils
/-- What a round does behind its entry: one pair more. -/
theorem tail19b {D : List Nat} {c n : Nat} {τ : Fr} (hlen : D.length < 2 ^ 30) (h0 : get3 ⟨.d0, .d0, .d0⟩ τ = .map id64) (h33 : get3 ⟨.d0, .d4, .d1⟩ τ = .ptr id66 0) (h6 : get3 ⟨.d0, .d0, .d6⟩ τ = pv D) (h7 : get3 ⟨.d0, .d0, .d7⟩ τ = ii c) (h8 : get3 ⟨.d0, .d1, .d0⟩ τ = ii 1) :
    Xn (exec FTd (n + 2) (acR (acL (acR (acR b19b)))) τ (σ19b D)) fun τ' σ' => S19b id69 (D ++ [c]) τ' σ' := by
  rw [← sets_eq [(⟨.d0, .d0, .d0⟩, .map id64), (⟨.d0, .d4, .d1⟩, .ptr id66 0), (⟨.d0, .d0, .d6⟩, pv D), (⟨.d0, .d0, .d7⟩, ii c), (⟨.d0, .d1, .d0⟩, ii 1)] τ (by simp [h0, h33, h6, h7, h8])]
  generalize τ = τ0
  cases D with
  | nil =>
    refine Xn.ops (Rn.cons rfl (Rn.cons rfl (Rn.cons rfl (Rn.cons rfl (Rn.cons rfl (Rn.cons rfl (Rn.cons rfl (Rn.nil ?_))))))))
    exact ⟨rfl, rfl, rfl, rfl⟩
  | cons x D =>
    refine Xn.ops (Rn.cons rfl (Rn.cons rfl (Rn.cons rfl (Rn.cons rfl (Rn.cons rfl (Rn.cons (step_app (b := id67) (n := (x :: D).length) (m := 2 * (x :: D).length) (t := prT (x :: D)) (xs := [ii c, ii 1]) rfl rfl rfl rfl (Nat.mul_comm _ _) (by omega) rfl) (Rn.cons rfl (Rn.nil ?_))))))))
    refine ⟨rfl, rfl, ?_, ?_⟩
    · show AV.slice id69 0 ((x :: D).length + 1) 2 none = _
      simp
    · show some (Blk.cells (T.lay [ii c, ii 1] (2 * (x :: D).length) (prT (x :: D))) (2 * (x :: D).length + 2)) = _
      rw [prT_snoc]
      simp; omega
end
end
end Go.Dk.Run
namespace Go.Dk.Run
open Go Go.Dk Go.RowKit Go.Proofs
noncomputable section
def sg2 (v : Value) : Nat := match v with | .int _ (.ofNat n) => n | _ => 0
structure Ents2 (es : Array MapEntry) (clock : Nat) (D : List Nat) : Prop where
  stm : Stm es clock
  key : ∀ e ∈ es.toList, e.key = iv (sg2 e.key)
  val : ∀ e ∈ es.toList, e.val = iv 1
  perm : (es.toList.map fun e => sg2 e.key).Perm D
theorem left_all (es : Array MapEntry) : leftOf es #[] = es := by
  unfold leftOf
  refine Array.filter_eq_self.2 fun x _ => ?_
  simp
section
variable {N : Nat} {w : World} {Q : Exit → Act → World → Prop}
theorem loop19b {cm zm r c2 z2 clock : Nat} {es : Array MapEntry} (hE : Ents2 es clock Cs) (hr : w.heap.size ≤ r) (hc2 : w.heap.size ≤ c2) (hcr : c2 ≠ r)
    (hend : ∀ (seen : Array Nat) (D : List Nat), D.Perm Cs → ∀ τ0, @SQ (kw w none [(r, itO c2 clock seen clock), (c2, .map es clock)]) N w [(id66, r, 0), (id65, c2, z2), (id64, cm, zm)] (sets (regs19b D) τ0) (σ19b D) (Q (.exit 2))) :
    ∀ (k : Nat) (seen : Array Nat) (D : List Nat), (leftOf es seen).size = k → (D ++ (leftOf es seen).toList.map fun e => sg2 e.key).Perm Cs → ∀ τ0,
      @LpA (kw w none [(r, itO c2 clock seen clock), (c2, .map es clock)]) Tryz.prog N w [(id66, r, 0), (id65, c2, z2), (id64, cm, zm)] b19b Q (sets (regs19b D) τ0) (σ19b D) := by
  have hkc : (kw w none [(c2, .map es clock)]).at' c2 = some (.map es clock) := kw_new hc2
  have hKV : ∀ e ∈ es.toList, ∀ φ, VR φ (ii (sg2 e.key)) e.key ∧ VR φ (ii 1) e.val := fun e he φ => ⟨by rw [hE.key e he]; exact .int _ _, by rw [hE.val e he]; exact .int _ _⟩
  intro k
  induction k with
  | zero =>
    intro seen D hk hp τ0
    letI : Keep := kw w none [(r, itO c2 clock seen clock), (c2, .map es clock)]
    have h0 : (leftOf es seen).toList = [] := by rw [← List.length_eq_zero_iff]; simpa using hk
    rw [h0, List.map_nil, List.append_nil] at hp
    have hne : D ≠ [] := fun e => by rw [e] at hp; have := hp.length_eq; revert this; decide
    refine LpA.step fun c hc => WpA.seq fun c2 hc2 => WpA.ops ?_
    refine SL.nextM (fun e => (ii (sg2 e.key), ii 1)) rfl (List.mem_cons_self ..) hr hcr hkc hE.stm.1 (Nat.le_refl _) hKV (fun _ => ?_) fun e he => ?_
    · refine SL.run mixed okFTd 4 rfl ?_
      refine SQ.code hc2 ?_
      cases D with
      | nil => exact absurd rfl hne
      | cons x D => exact WpA.execB mixed okFTd (n := 6) (id := 2) (R := fun τ σ => S19b id67 (x :: D) τ σ) (Xb.seqB (Xb.condF rfl (Xb.exit ⟨rfl, rfl, rfl, rfl⟩))) fun τ1 σ1 h1 => re19b (.inl rfl) h1 hne fun τ2 => hend seen (x :: D) hp τ2
    · rw [h0] at he; cases he
  | succ k ih =>
    intro seen D hk hp τ0
    letI : Keep := kw w none [(r, itO c2 clock seen clock), (c2, .map es clock)]
    have hlen : D.length < 2 ^ 30 := by
      have := hp.length_eq
      rw [List.length_append] at this
      have h2 : Cs.length = 132 := rfl
      omega
    refine LpA.step fun c hc => WpA.seq fun c2' hc2' => WpA.ops ?_
    refine SL.nextM (fun e => (ii (sg2 e.key), ii 1)) rfl (List.mem_cons_self ..) hr hcr hkc hE.stm.1 (Nat.le_refl _) hKV (fun h0 => by omega) fun e he => ?_
    have hem : e ∈ es.toList := by
      have : e ∈ (leftOf es seen) := by simpa using he
      unfold leftOf at this
      simp at this
      simpa using this.1
    have hlp := left_perm hE.stm.2 he
    letI K2 : Keep := kw w none [(r, itO c2 clock (seen.push e.born) clock), (c2, .map es clock)]
    refine SL.run mixed okFTd 4 rfl ?_
    refine SQ.code hc2' ?_
    refine WpA.seqX mixed okFTd (n := 6) (R := fun τ σ => (D = [] → get3 ⟨.d0, .d0, .d0⟩ τ = .map id64 ∧ get3 ⟨.d0, .d4, .d1⟩ τ = .ptr id66 0 ∧ get3 ⟨.d0, .d0, .d6⟩ τ = .nils) ∧ (D ≠ [] → S19b id67 D τ σ)) (Xn.condT rfl (Xn.skip ⟨fun e => by subst e; exact ⟨rfl, rfl, rfl⟩, fun hne => by cases D with | nil => exact absurd rfl hne | cons x D => exact ⟨rfl, rfl, rfl, rfl⟩⟩)) fun τ1 σ1 h1 => ?_
    refine re19bW h1.1 h1.2 fun τ2 => ?_
    refine WpA.block ?_
    refine WpA.seq fun c3 hc3 => WpA.ops ?_
    refine SL.entryM (e := e) (k := ii (sg2 e.key)) (v := ii 1) rfl (List.mem_cons_self ..) hr hcr hkc hem hE.stm.2 (hKV e hem) ?_
    refine SL.run mixed okFTd 4 rfl ?_
    refine SQ.code hc3 ?_
    refine WpA.execN mixed okFTd (n := 6) (tail19b (n := 4) (D := D) (c := sg2 e.key) hlen rfl rfl rfl rfl rfl) fun τ3 σ3 h3 => ?_
    refine re19b (.inr rfl) h3 (by simp) fun τ4 => ?_
    refine ih (seen.push e.born) (D ++ [sg2 e.key]) ?_ ?_ τ4 c hc
    · have := hlp.length_eq; simp at this; omega
    · refine List.Perm.trans ?_ hp
      rw [List.append_assoc]
      exact List.Perm.append_left D (by simpa using (hlp.map fun e => sg2 e.key).symm)
def regs19f : List (I3 × AV) := [(⟨.d0, .d0, .d0⟩, .map id64), (⟨.d0, .d0, .d3⟩, .map id65), (⟨.d0, .d0, .d6⟩, .nils)]
def σ19f : H := ⟨id66, rep5 none⟩
theorem vrs_ones {φ : Emb} : ∀ {l : List AV} {vs : List Value}, (∀ x ∈ l, x = ii 1) → VRs φ l vs → ∀ v ∈ vs, v = iv 1
  | [], _, _, h, v, hv => by cases h; cases hv
  | x :: l, _, hx, h, v, hv => by
    cases h with
    | cons _ u _ r h t =>
      obtain rfl := hx x (by simp)
      cases h
      rcases List.mem_cons.1 hv with rfl | hv
      · rfl
      · exact vrs_ones (fun y hy => hx y (by simp [hy])) t v hv
/-- The count's map is held from here on. -/
theorem freeze19 {cm zm r : Nat} {o : Obj} {D : List Nat} {τ : Fr} {σ : H} {R : Act → World → Prop} (h : S19 D τ σ) (h6 : get3 ⟨.d0, .d0, .d6⟩ τ = .nils)
    (k : ∀ c2 z2 es clock, w.heap.size ≤ c2 → Ents2 es clock D → ∀ τ0, @SQ (kw w none [(c2, .map es clock)]) N w [(id65, c2, z2), (id64, cm, zm)] (sets regs19f τ0) σ19f R) : @SQ (kw w none [(r, o)]) N w [(id66, r, 0), (id64, cm, zm)] τ σ R := by
  intro φ a w' hT hH hE hP
  obtain ⟨c2, z2, h1, h2⟩ := @HR.blk (kw w none [(r, o)]) _ _ _ hH id65 _ h.b65
  have hge := kw_new_lt hH h.b65 h1
  obtain ⟨es, clock, l', g1, g2, g3, g4, g5, g6, g7⟩ := h2
  obtain ⟨ks, k1, k2, k3⟩ := keys_of (ns := D) (by unfold longL; rw [List.map_map]; rfl) g2 g3
  have hents : Ents2 es clock D := by
    refine ⟨g7, fun e he => ?_, fun e he => ?_, ?_⟩
    · have : e.key ∈ es.toList.map (·.key) := List.mem_map_of_mem he
      rw [k3] at this
      obtain ⟨n, _, e2⟩ := List.mem_map.1 this
      rw [← e2]; rfl
    · refine vrs_ones (fun x hx => ?_) g4 e.val (List.mem_map_of_mem (f := fun e : MapEntry => e.val) he)
      obtain ⟨p, hp, rfl⟩ := List.mem_map.1 hx
      obtain ⟨c, _, rfl⟩ := List.mem_map.1 (g2.mem_iff.1 hp)
      rfl
    · have : (es.toList.map fun e => sg2 e.key) = (es.toList.map (·.key)).map sg2 := by rw [List.map_map]; rfl
      rw [this, k3, List.map_map]
      have h3 : ks.map (sg2 ∘ iv) = ks := by conv => rhs; rw [← List.map_id ks]
                                             rfl
      rw [h3]; exact k1
  obtain ⟨τ0, h0⟩ := hT.junk (ren_GOk (r := [(id64, id64), (id65, id65)]) hT.glob)
  have e65 : ren [(id64, id64), (id65, id65)] φ id65 = some (c2, z2) := h1
  have e64 : ren [(id64, id64), (id65, id65)] φ id64 = some (cm, zm) := hP (id64, cm, zm) (by simp)
  refine k c2 z2 es clock hge hents τ0 (ren [(id64, id64), (id65, id65)] φ) a w' (h0.sets fun p hp => ?_) ?_ hE fun p hp => ?_
  · have hs := hT.slot p.1
    simp only [regs19f, List.mem_cons, List.not_mem_nil, or_false] at hp
    rcases hp with rfl | rfl | rfl
    · rw [show get3 _ τ = _ from h.r0] at hs; exact VR.renMap (b0 := id64) hs rfl
    · rw [show get3 _ τ = _ from h.r3] at hs; exact VR.renMap (b0 := id65) hs rfl
    · rw [h6] at hs
      generalize a.tmps.getD _ undef = v at hs ⊢
      cases hs; exact .nils
  · have hno : ∀ i x, σ19f.blk i = some x → False := fun i x hi => by
      replace hi : get5 i (rep5 (none : Option Blk)) = some x := hi
      rw [get_rep5] at hi; cases hi
    refine @HR.mk (kw w none [(c2, .map es clock)]) _ _ _ (fun i hi => ?_) (fun i x hi => (hno i x hi).elim) (fun i j x x' c z z' hi => (hno i x hi).elim) fun kk oo hk => ⟨?_, fun i x z hi => (hno i x hi).elim⟩
    · have h66 : (66 : Nat) ≤ i.num := hi
      unfold ren
      rw [if_neg (by omega)]
      have n1 : (i == id64) = false := by
        cases e : (i == id64) with
        | false => rfl
        | true => have : i = id64 := by simpa using e
                  subst this; exact absurd h66 (by decide)
      have n2 : (i == id65) = false := by
        cases e : (i == id65) with
        | false => rfl
        | true => have : i = id65 := by simpa using e
                  subst this; exact absurd h66 (by decide)
      simp [List.lookup_cons, n1, n2]
    · by_cases hlt : kk < w.heap.size
      · rw [kw_all _ hlt] at hk
        exact (kw_kept hH hlt).trans hk
      · replace hk : (if kk < w.heap.size then (if (none : Option Nat) = some kk then none else w.heap[kk]?) else List.lookup kk [(c2, Obj.map es clock)]) = some oo := hk
        rw [if_neg hlt, List.lookup_cons] at hk
        by_cases e : kk = c2
        · subst e; simp at hk; subst hk; exact g1
        · have : (kk == c2) = false := by simp [e]
          rw [this] at hk; cases hk
  · simp only [List.mem_cons, List.not_mem_nil, or_false] at hp
    rcases hp with rfl | rfl
    · exact e65
    · exact e64
end
end
end Go.Dk.Run
namespace Go.Dk.Run
open Go Go.Dk Go.RowKit Go.Proofs
noncomputable section
def keysOk : List Nat → List (AV × AV) → Bool
  | [], [] => true
  | c :: cs, p :: l => (match p.1 with | .agg [.int .i64 (.ofNat m), .int .i64 (.ofNat 0), .int .i64 (.ofNat 0)] => m == c + 1 | _ => false) && (match p.2 with | .slice .. => true | .nils => true | _ => false) && keysOk cs l
  | _, _ => false
theorem keysOk_eq : ∀ {cs : List Nat} {l : List (AV × AV)}, keysOk cs l = true → l.map (·.1) = cs.map keyA ∧ ∀ p ∈ l, (∃ b o n e c, p.2 = .slice b o n e c) ∨ p.2 = .nils
  | [], [], _ => ⟨rfl, fun p hp => by cases hp⟩
  | [], _ :: _, h => by cases h
  | _ :: _, [], h => by cases h
  | c :: cs, p :: l, h => by
    unfold keysOk at h
    rw [Bool.and_eq_true, Bool.and_eq_true] at h
    obtain ⟨⟨h1, h2⟩, h3⟩ := h
    obtain ⟨h4, h5⟩ := keysOk_eq h3
    refine ⟨?_, fun q hq => ?_⟩
    · rw [List.map_cons, List.map_cons, h4]
      congr 1
      split at h1
      · rename_i m e
        rw [e, show m = c + 1 by simpa using h1]; rfl
      · cases h1
    · rcases List.mem_cons.1 hq with rfl | hq
      · split at h2
        · rename_i e; exact .inl ⟨_, _, _, _, _, e⟩
        · rename_i e; exact .inr e
        · cases h2
      · exact h5 q hq
def g19 (args : List AV) (σ : H) : Option (Blk × (Id → AV)) := match args with
  | [.map b] => (match σ.blk b with
    | some (.map _ l) => if keysOk Cs l then some (.cells .nil 0, fun b => .ptr b 0) else none
    | _ => none)
  | _ => none
theorem ent19 : entOf Tryz.prog 19 = some (.code [⟨.d0, .d0, .d0⟩] (bodyOf e19) [.tmp ⟨.d0, .d0, .d2⟩]) := by kernel_rfl
def σ19z : H := ⟨id65, rep5 none⟩
section
variable {N : Nat} {w : World} {Q : Exit → Act → World → Prop}
theorem call29 {D : List Nat} (hD : D.Perm Cs) : lawN g29 [.slice id67 0 D.length 2 none] (σ19b D) = some (.tup [.ptr id68 0, .int .i64 (.ofNat 0)], ⟨id69, set5 id68 (some (.cells .nil 0)) (pm D)⟩) := by
  refine lawN_some (x := .cells .nil 0) (mk := fun b => .tup [.ptr b 0, .int .i64 (.ofNat 0)]) ?_ rfl
  cases D with
  | nil => exact absurd hD.length_eq (by decide)
  | cons c D =>
    show (if 2 * (c :: D).length = 2 * (c :: D).length then (match (prT (c :: D)).take (2 * (c :: D).length) 0 with | some cells => (match decode cells with | some l => if l.isPerm Cs then some (Blk.cells .nil 0, fun b => AV.tup [.ptr b 0, .int .i64 (.ofNat 0)]) else none | none => none) | none => none) else none) = _
    rw [if_pos rfl]
    have ht : (prT (c :: D)).take (2 * (c :: D).length) 0 = some (prs (c :: D)) := by
      rw [take_some (fun j => (prs (c :: D))[j]?.getD (ii 0)) (2 * (c :: D).length) 0 fun j _ hj => ?_]
      · congr 1
        refine List.ext_getElem? fun j => ?_
        rw [List.getElem?_map]
        by_cases hj : j < 2 * (c :: D).length
        · rw [List.getElem?_range' hj]
          have : j < (prs (c :: D)).length := by rw [prs_len]; exact hj
          simp [List.getElem?_eq_getElem this]
        · rw [List.getElem?_eq_none (l := List.range' _ _) (by simp at hj ⊢; omega), List.getElem?_eq_none (l := prs (c :: D)) (by rw [prs_len]; omega)]; rfl
      · unfold prT; rw [lay_nil_get]
        have : j < (prs (c :: D)).length := by rw [prs_len]; omega
        simp [List.getElem?_eq_getElem this]
    rw [ht]
    simp only [decode_prs]
    rw [if_pos (List.isPerm_iff.2 hD)]
theorem tail19c {cm zm r c2 z2 : Nat} [Keep] {D : List Nat} (hD : D.Perm Cs) (τ0 : Fr) (hend : ∀ τ σ b t m, get3 ⟨.d0, .d0, .d2⟩ τ = .ptr b 0 → σ.blk b = some (.cells t m) → SQ N w [(id66, r, 0), (id65, c2, z2), (id64, cm, zm)] τ σ (Q .ret)) :
    WpA Tryz.prog N w [(id66, r, 0), (id65, c2, z2), (id64, cm, zm)] (acR (acR (acR (acR (acR (bodyOf e19)))))) Q (sets (regs19b D) τ0) (σ19b D) := by
  have hpv : pv D = .slice id67 0 D.length 2 none := by
    cases D with
    | nil => exact absurd hD.length_eq (by decide)
    | cons c D => rfl
  refine WpA.execR mixed okFTd (n := 8) (R := fun τ σ => get3 ⟨.d0, .d0, .d2⟩ τ = .ptr id69 0 ∧ ∃ t m, σ.blk id69 = some (.cells t m)) ?_ fun τ σ h => let ⟨h1, t, m, h2⟩ := h; hend τ σ id69 t m h1 h2
  unfold regs19b
  rw [hpv]
  refine Xr.seqN (Xn.ops (Rn.cons rfl (Rn.cons (step_call rfl (call29 hD)) (Rn.cons rfl (Rn.cons rfl (Rn.cons rfl (Rn.cons rfl (Rn.cons rfl (Rn.nil ?_)))))))))
  exact Xr.seqN (Xn.ops (Rn.cons rfl (Rn.cons rfl (Rn.cons rfl (Rn.cons rfl (Rn.cons rfl (Rn.nil (Xr.ret ⟨rfl, _, _, rfl⟩))))))))
theorem walk19 {cm zm clock : Nat} {es : Array MapEntry} (hE : Ents es clock) (hcm : w.heap[cm]? = some (.map es clock)) (hperm : (es.toList.map fun e => sgnV e.key).Perm Cs) (τ0 : Fr)
    (hend : ∀ (l : List (Nat × Obj)) pins τ σ b t m, get3 ⟨.d0, .d0, .d2⟩ τ = .ptr b 0 → σ.blk b = some (.cells t m) → @SQ (kw w none l) N w pins τ σ (Q .ret)) :
    @WpA (kw w none []) Tryz.prog N w [(id64, cm, zm)] (bodyOf e19) Q (set3 ⟨.d0, .d0, .d0⟩ (.map id64) τ0) σ19z := by
  letI : Keep := kw w none []
  have hclt := (Array.getElem?_eq_some_iff.1 hcm).1
  have hkc : (kw w none []).at' cm = some (.map es clock) := (kw_all [] hclt).trans hcm
  refine WpA.seqX mixed okFTd (n := 6) (R := fun τ σ => get3 ⟨.d0, .d0, .d0⟩ τ = .map id64 ∧ σ = σ19z) (Xn.ops (Rn.cons rfl (Rn.nil ⟨rfl, rfl⟩))) ?_
  rintro τ1 _ ⟨h1, rfl⟩
  refine WpA.seqX mixed okFTd (n := 6) (R := fun τ σ => ∃ τ0, τ = sets [(⟨.d0, .d0, .d0⟩, .map id64), (⟨.d0, .d0, .d3⟩, .map id65)] τ0 ∧ σ = ⟨id66, set5 id65 (some (.map (.prim .i) [])) (rep5 none)⟩) ?_ ?_
  · rw [← set_self ⟨.d0, .d0, .d0⟩ τ1, h1]
    exact Xn.ops (Rn.cons rfl (Rn.cons rfl (Rn.nil ⟨_, (sets_eq _ _ (by intro p hp; simp only [List.mem_cons, List.not_mem_nil, or_false] at hp; rcases hp with rfl | rfl <;> rfl)).symm, rfl⟩)))
  rintro _ _ ⟨τ2, rfl, rfl⟩
  refine WpA.seq fun c2 hc2 => WpA.seq fun c3 hc3 => WpA.ops (SL.step mixed okFTd 4 rfl (SL.rangeM (c := cm) (zc := zm) rfl (List.mem_singleton.2 rfl) hkc rfl fun r hr hcr => ?_))
  letI K1 : Keep := kw w none [(r, itO cm clock #[] clock)]
  refine SL.run mixed okFTd 4 rfl ?_
  refine SQ.code hc3 ?_
  refine WpA.block (WpA.loop (re19L (D := []) ⟨rfl, rfl, rfl, rfl⟩ fun τ3 => ?_))
  refine loop19a hE hr (by omega) hcm (fun seen D hD τ4 => ?_) _ #[] [] rfl (by rw [left_all]; simpa using hperm) τ3
  letI K2 : Keep := kw w none [(r, itO cm clock seen clock)]
  refine SQ.code hc2 ?_
  refine WpA.seqX mixed okFTd (n := 6) (R := fun τ σ => S19 D τ σ ∧ get3 ⟨.d0, .d0, .d6⟩ τ = .nils) (Xn.ops (Rn.cons rfl (Rn.nil ⟨⟨rfl, rfl, rfl, rfl⟩, rfl⟩))) ?_
  rintro τ5 σ5 ⟨h5, h5b⟩
  intro cd hcd
  refine freeze19 h5 h5b fun c4 z4 es4 clock4 hc4 hE4 τ6 => ?_
  letI K3 : Keep := kw w none [(c4, .map es4 clock4)]
  have hE5 : Ents2 es4 clock4 Cs := ⟨hE4.stm, hE4.key, hE4.val, hE4.perm.trans hD⟩
  refine (WpA.seq fun c5 hc5 => WpA.seq fun c6 hc6 => WpA.ops (SL.step mixed okFTd 4 rfl (SL.rangeM (b := id65) (c := c4) (zc := z4) rfl (List.mem_cons_self ..) (kw_new hc4) rfl fun r2 hr2 hcr2 => ?_)) : WpA Tryz.prog N w [(id65, c4, z4), (id64, cm, zm)] _ Q (sets regs19f τ6) σ19f) cd hcd
  letI K4 : Keep := kw w none [(r2, itO c4 clock4 #[] clock4), (c4, .map es4 clock4)]
  refine SL.run mixed okFTd 4 rfl ?_
  refine SQ.code hc6 ?_
  refine WpA.block (WpA.loop fun c7 hc7 => ?_)
  refine SQ.re [(id64, id64), (id65, id65), (id66, id66)] [(id66, r2, 0), (id65, c4, z4), (id64, cm, zm)] (σ19b []) (regs19b []) (by kernel_rfl) (fun p hp => ?_) (fun i x hi => ?_) (fun p hp φ v hv => ?_) fun τ8 => loop19b hE5 hr2 hc4 (by omega) (fun seen D hD τ9 => ?_) _ #[] [] rfl (by rw [left_all]; simpa using hE5.perm) τ8 c7 hc7
  · simp only [List.mem_cons, List.not_mem_nil, or_false] at hp
    rcases hp with rfl | rfl | rfl
    · exact ⟨id66, rfl, by simp [σ19f]⟩
    · exact ⟨id65, rfl, by simp⟩
    · exact ⟨id64, rfl, by simp⟩
  · replace hi : get5 i (rep5 (none : Option Blk)) = some x := hi
    rw [get_rep5] at hi; cases hi
  · simp only [regs19b, List.mem_cons, List.not_mem_nil, or_false] at hp
    rcases hp with rfl | rfl | rfl
    · exact VR.renMap (b0 := id64) hv rfl
    · exact VR.renPtr (b0 := id66) hv rfl
    · have hv : VR φ .nils v := hv
      cases hv; exact .nils
  · letI K5 : Keep := kw w none [(r2, itO c4 clock4 seen clock4), (c4, .map es4 clock4)]
    refine SQ.code hc5 ?_
    exact tail19c hD τ9 fun τ σ b t m q1 q2 => hend _ _ τ σ b t m q1 q2
end
theorem resX_one (i : I3) (τ : Fr) (σ : H) : resX [.tmp i] τ σ = some (get3 i τ, σ) := rfl
theorem vrs_keys {φ : Emb} : ∀ {ks : List Nat} {vs : List Value}, VRs φ (ks.map keyA) vs → vs = ks.map keyV
  | [], _, h => by cases h; rfl
  | k :: ks, _, h => by
    cases h with
    | cons _ v _ r h t =>
      rw [vrs_keys t]
      cases h with
      | agg _ l' h h1 =>
      cases h with
      | cons _ _ _ _ a1 t1 =>
      cases t1 with
      | cons _ _ _ _ a2 t2 =>
      cases t2 with
      | cons _ _ _ _ a3 t3 =>
      cases t3; cases a1; cases a2; cases a3
      rfl
theorem keys_of2 {φ : Emb} {ns : List Nat} {l l' : List (AV × AV)} {es : List MapEntry} (hl : l.map (·.1) = ns.map keyA) (hp : l'.Perm l) (hv : VRs φ (l'.map (·.1)) (es.map (·.key))) : ∃ ks : List Nat, ks.Perm ns ∧ l'.map (·.1) = ks.map keyA ∧ es.map (·.key) = ks.map keyV := by
  let un : AV → Nat := fun | .agg (.int _ (.ofNat (n + 1)) :: _) => n | _ => 0
  have h1 : (l'.map (·.1)).Perm (ns.map keyA) := hl ▸ hp.map _
  have h2 : ((l'.map (·.1)).map un).Perm ns := by
    have := h1.map un
    rw [List.map_map (f := keyA)] at this
    have e : ns.map (un ∘ keyA) = ns := by conv => rhs; rw [← List.map_id ns]
                                           rfl
    rwa [e] at this
  have h3 : l'.map (·.1) = ((l'.map (·.1)).map un).map keyA := by
    rw [List.map_map]
    conv => lhs; rw [← List.map_id (l'.map (·.1))]
    refine List.map_congr_left fun x hx => ?_
    obtain ⟨n, _, rfl⟩ := List.mem_map.1 (h1.mem_iff.1 hx)
    rfl
  exact ⟨_, h2, h3, vrs_keys (h3 ▸ hv)⟩
theorem vrs_nobool {φ : Emb} : ∀ {l : List AV} {vs : List Value}, (∀ x ∈ l, (∃ b o n e c, x = .slice b o n e c) ∨ x = .nils) → VRs φ l vs → ∀ v ∈ vs, ∀ b, v ≠ .bool b
  | [], _, _, h, v, hv => by cases h; cases hv
  | x :: l, _, hx, h, v, hv => by
    cases h with
    | cons _ u _ r h t =>
      rcases List.mem_cons.1 hv with rfl | hv
      · rcases hx x (by simp) with ⟨b, o, n, e, c, rfl⟩ | rfl
        · cases h <;> (intro b h; cases h)
        · cases h; intro b h; cases h
      · exact vrs_nobool (fun y hy => hx y (by simp [hy])) t v hv
theorem law19 [K0 : Keep] : EntOk Tryz.prog i19 (.law (lawN g19)) := by
  refine ent_new (callsOk (by kernel_rfl)) fun φ σ w args args' x mk hG hH hv hg => ?_
  unfold g19 at hg
  split at hg
  · rename_i b
    split at hg
    · rename_i kt l hb
      by_cases hk : keysOk Cs l = true
      · rw [if_pos hk] at hg
        cases hg
        cases hv with
        | cons _ u _ r hu tl =>
        cases tl
        cases hu with
        | map _ cm zm hφ =>
        obtain ⟨c1, z1, h1, h2⟩ := hH.blk b _ hb
        rw [hφ] at h1; cases h1
        obtain ⟨es, clock, l', h3, h4, h5, h6, h7, h8, h9⟩ := h2
        obtain ⟨k1, k2⟩ := keysOk_eq hk
        obtain ⟨ks, k3, k4, k5⟩ := keys_of2 k1 h4 h5
        have hkey : ∀ e ∈ es.toList, ∃ n ∈ ks, e.key = keyV n := fun e he => by
          have : e.key ∈ es.toList.map (·.key) := List.mem_map_of_mem he
          rw [k5] at this
          obtain ⟨n, hn, e2⟩ := List.mem_map.1 this
          exact ⟨n, hn, e2.symm⟩
        have hE : Ents es clock := by
          refine ⟨h9, fun e he => ?_, fun e he => ?_⟩
          · obtain ⟨n, hn, e2⟩ := hkey e he
            rw [e2, sgnV_key]
            exact ⟨rfl, by simpa using k3.mem_iff.1 hn⟩
          · refine vrs_nobool (fun x hx => ?_) h6 e.val (List.mem_map_of_mem (f := fun e : MapEntry => e.val) he)
            obtain ⟨p, hp, rfl⟩ := List.mem_map.1 hx
            exact k2 p (h4.mem_iff.1 hp)
        have hperm : (es.toList.map fun e => sgnV e.key).Perm Cs := by
          have : (es.toList.map fun e => sgnV e.key) = (es.toList.map (·.key)).map sgnV := by rw [List.map_map]; rfl
          rw [this, k5, List.map_map]
          have h3 : ks.map (sgnV ∘ keyV) = ks := by conv => rhs; rw [← List.map_id ks]
                                                    rfl
          rw [h3]; exact k3
        have hno : ∀ i y, σ19z.blk i = some y → False := fun i y hi => by
          replace hi : get5 i (rep5 (none : Option Blk)) = some y := hi
          rw [get_rep5] at hi; cases hi
        have hH1 : @HR (kw w none []) (ren [(id64, b)] φ) σ19z w := by
          have h1 : @HR K0 (ren [(id64, b)] φ) σ19z w := HR.ren hH [(id64, b)] (by simp [renOk, id64, σ19z, Id.num, D8.num]) fun i y hi => (hno i y hi).elim
          exact @HR.rekeep K0 (kw w none []) _ _ _ h1 fun k o hk => ⟨kw_old hk, fun i y z hi => (hno i y hi).elim⟩
        have ha : ren [(id64, b)] φ id64 = some (cm, zm) := hφ
        refine @calls_walk Tryz.prog [(id64, cm, zm)] _ σ19z (kw w none []) 19 _ _ _ ent19 (ren [(id64, b)] φ) w [.map id64] [.map (some cm)] _ rfl (ren_GOk hG) hH1 (.cons _ _ _ _ (.map _ _ _ ha) .nil) (fun p hp => by simp at hp; subst hp; exact ha) fun N Q hQ => ?_
        refine walk19 hE h3 hperm emptyF fun l pins τ σ' bb t m q1 q2 => ?_
        refine hQ (kw w none l) _ τ σ' (.ptr bb 0) (by rw [resX_one, q1]) fun φ' w' v' r1 r2 r3 r4 => ?_
        cases r1 with
        | ptr _ _ c1 z1 hφ1 =>
        obtain ⟨c2, z2, s1, s2⟩ := @HR.blk (kw w none l) _ _ _ r2 bb _ q2
        rw [hφ1] at s1; cases s1
        obtain ⟨cur, e, s3, s4, s5, s6⟩ := s2
        exact ⟨c1, z1, _, rfl, kw_new_lt r2 q2 hφ1, fun φ2 => ⟨cur, e, s3, s4, Nat.zero_le _, fun k y hk => by cases hk⟩, fun φ2 b2 _ hb2 => .ptr _ _ _ _ hb2, hH.old fun k hk => kw_kept r2 hk, r3, fun k hk _ => kw_kept r2 hk⟩
      · rw [if_neg hk] at hg; cases hg
    · cases hg
  · cases hg
end
end Go.Dk.Run
namespace Go.Dk.Root
open Go Go.Dk Go.Dk.Run
noncomputable section
/-- umlaut/table.Root -/
def e13 : Ent := .code []
 (.seq (.ops [⟨(some ⟨.d0, .d0, .d0⟩), none, .mv (.c .nilp)⟩])
 (.seq (.ops [⟨(some ⟨.d0, .d1, .d5⟩), none, .mkM (.flat [.i, .i, .i])⟩,
  ⟨(some ⟨.d0, .d0, .d1⟩), none, .box none (.c .nilm)⟩,
  ⟨none, none, .store 1 (.t ⟨.d0, .d0, .d1⟩) (.t ⟨.d0, .d1, .d5⟩)⟩])
 (.seq (.ops [⟨(some ⟨.d0, .d1, .d6⟩), none, .mkfn 15 [] [(.t ⟨.d0, .d0, .d1⟩)]⟩,
  ⟨(some ⟨.d0, .d0, .d2⟩), none, .mv (.t ⟨.d0, .d1, .d6⟩)⟩])
 (.seq (.seq (.ops [⟨(some ⟨.d0, .d1, .d7⟩), none, .rangeS (.c (.str [32, 95, 45, 44, 46, 39]))⟩])
 (.block 0 (.loop (.seq (.ops [⟨(some ⟨.d0, .d2, .d0⟩), none, .nextS (.t ⟨.d0, .d1, .d7⟩)⟩,
  ⟨(some ⟨.d0, .d2, .d1⟩), none, .ext (.t ⟨.d0, .d2, .d0⟩) 0⟩])
 (.seq (.cond (.t ⟨.d0, .d2, .d1⟩) .skip (.exit 0))
 (.block 1 (.seq (.ops [⟨(some ⟨.d0, .d2, .d2⟩), none, .ext (.t ⟨.d0, .d2, .d0⟩) 1⟩,
  ⟨(some ⟨.d0, .d2, .d3⟩), none, .ext (.t ⟨.d0, .d2, .d0⟩) 2⟩,
  ⟨(some ⟨.d0, .d0, .d3⟩), none, .mv (.t ⟨.d0, .d2, .d2⟩)⟩,
  ⟨(some ⟨.d0, .d0, .d4⟩), none, .mv (.t ⟨.d0, .d2, .d3⟩)⟩])
 (.ops [⟨(some ⟨.d0, .d2, .d4⟩), none, .mv (.t ⟨.d0, .d0, .d2⟩)⟩,
  ⟨(some ⟨.d0, .d2, .d5⟩), none, .mv (.t ⟨.d0, .d0, .d4⟩)⟩,
  ⟨(some ⟨.d0, .d2, .d6⟩), none, .convI .i64 (.t ⟨.d0, .d2, .d5⟩)⟩,
  ⟨(some ⟨.d0, .d2, .d7⟩), none, .mv (.t ⟨.d0, .d0, .d3⟩)⟩,
  ⟨(some ⟨.d0, .d3, .d0⟩), none, .bin .mul (.c (.int .i64 (.ofNat 4))) (.t ⟨.d0, .d2, .d7⟩)⟩,
  ⟨(some ⟨.d0, .d3, .d1⟩), none, .bin .add (.c (.int .i64 (.ofNat 16))) (.t ⟨.d0, .d3, .d0⟩)⟩,
  ⟨(some ⟨.d0, .d3, .d2⟩), none, .callF ⟨.d0, .d2, .d0⟩ [(.t ⟨.d0, .d3, .d1⟩), (.c (.int .i64 (.ofNat 32))), (.c (.int .i64 (.ofNat 2))), (.c (.bool true))]⟩,
  ⟨(some ⟨.d0, .d3, .d3⟩), none, .buildS none 1 1 [(.int .u32 (.ofNat 0))] [(0, 1, (.t ⟨.d0, .d3, .d2⟩))]⟩,
  ⟨(some ⟨.d0, .d3, .d4⟩), none, .callV (.t ⟨.d0, .d2, .d4⟩) [(.t ⟨.d0, .d2, .d6⟩), (.t ⟨.d0, .d3, .d3⟩)]⟩]))))))))
 (.seq (.seq (.ops [⟨(some ⟨.d0, .d3, .d5⟩), none, .mv (.c (.int .i64 (.ofNat 0)))⟩])
 (.block 2 (.loop (.seq (.ops [⟨(some ⟨.d0, .d3, .d6⟩), none, .bin .lss (.t ⟨.d0, .d3, .d5⟩) (.c (.int .i64 (.ofNat 10)))⟩])
 (.seq (.cond (.t ⟨.d0, .d3, .d6⟩) .skip (.exit 2))
 (.seq (.block 3 (.seq (.ops [⟨(some ⟨.d0, .d3, .d7⟩), none, .mv (.t ⟨.d0, .d3, .d5⟩)⟩,
  ⟨(some ⟨.d0, .d0, .d5⟩), none, .mv (.t ⟨.d0, .d3, .d7⟩)⟩])
 (.ops [⟨(some ⟨.d0, .d4, .d0⟩), none, .mv (.t ⟨.d0, .d0, .d2⟩)⟩,
  ⟨(some ⟨.d0, .d4, .d1⟩), none, .mv (.t ⟨.d0, .d0, .d5⟩)⟩,
  ⟨(some ⟨.d0, .d4, .d2⟩), none, .bin .add (.c (.int .i64 (.ofNat 48))) (.t ⟨.d0, .d4, .d1⟩)⟩,
  ⟨(some ⟨.d0, .d4, .d3⟩), none, .mv (.t ⟨.d0, .d0, .d5⟩)⟩,
  ⟨(some ⟨.d0, .d4, .d4⟩), none, .bin .mul (.c (.int .i64 (.ofNat 4))) (.t ⟨.d0, .d4, .d3⟩)⟩,
  ⟨(some ⟨.d0, .d4, .d5⟩), none, .bin .add (.c (.int .i64 (.ofNat 128))) (.t ⟨.d0, .d4, .d4⟩)⟩,
  ⟨(some ⟨.d0, .d4, .d6⟩), none, .callF ⟨.d0, .d2, .d0⟩ [(.t ⟨.d0, .d4, .d5⟩), (.c (.int .i64 (.ofNat 32))), (.c (.int .i64 (.ofNat 2))), (.c (.bool false))]⟩,
  ⟨(some ⟨.d0, .d4, .d7⟩), none, .buildS none 1 1 [(.int .u32 (.ofNat 0))] [(0, 1, (.t ⟨.d0, .d4, .d6⟩))]⟩,
  ⟨(some ⟨.d0, .d5, .d0⟩), none, .callV (.t ⟨.d0, .d4, .d0⟩) [(.t ⟨.d0, .d4, .d2⟩), (.t ⟨.d0, .d4, .d7⟩)]⟩])))
 (.ops [⟨(some ⟨.d0, .d5, .d1⟩), none, .bin .add (.t ⟨.d0, .d3, .d5⟩) (.c (.int .i64 (.ofNat 1)))⟩,
  ⟨(some ⟨.d0, .d3, .d5⟩), none, .mv (.t ⟨.d0, .d5, .d1⟩)⟩])))))))
 (.seq (.seq (.ops [⟨(some ⟨.d0, .d0, .d6⟩), none, .mv (.c (.int .i32 (.ofNat 97)))⟩])
 (.block 4 (.loop (.seq (.seq (.ops [⟨(some ⟨.d0, .d5, .d2⟩), none, .mv (.t ⟨.d0, .d0, .d6⟩)⟩,
  ⟨(some ⟨.d0, .d5, .d3⟩), none, .bin .leq (.t ⟨.d0, .d5, .d2⟩) (.c (.int .i32 (.ofNat 122)))⟩])
 (.cond (.t ⟨.d0, .d5, .d3⟩) .skip (.exit 4)))
 (.seq (.block 5 (.seq (.ops [⟨(some ⟨.d0, .d5, .d6⟩), none, .mv (.t ⟨.d0, .d0, .d2⟩)⟩,
  ⟨(some ⟨.d0, .d5, .d7⟩), none, .mv (.t ⟨.d0, .d0, .d6⟩)⟩,
  ⟨(some ⟨.d0, .d6, .d0⟩), none, .convI .i64 (.t ⟨.d0, .d5, .d7⟩)⟩,
  ⟨(some ⟨.d0, .d6, .d1⟩), none, .mv (.t ⟨.d0, .d0, .d6⟩)⟩,
  ⟨(some ⟨.d0, .d6, .d2⟩), none, .callF ⟨.d0, .d2, .d1⟩ [(.t ⟨.d0, .d6, .d1⟩), (.c (.int .i64 (.ofNat 2)))]⟩,
  ⟨(some ⟨.d0, .d6, .d3⟩), none, .buildS none 1 1 [(.int .u32 (.ofNat 0))] [(0, 1, (.t ⟨.d0, .d6, .d2⟩))]⟩,
  ⟨(some ⟨.d0, .d6, .d4⟩), none, .callV (.t ⟨.d0, .d5, .d6⟩) [(.t ⟨.d0, .d6, .d0⟩), (.t ⟨.d0, .d6, .d3⟩)]⟩])
 (.ops [⟨(some ⟨.d0, .d6, .d5⟩), none, .mv (.t ⟨.d0, .d0, .d2⟩)⟩,
  ⟨(some ⟨.d0, .d6, .d6⟩), none, .mv (.t ⟨.d0, .d0, .d6⟩)⟩,
  ⟨(some ⟨.d0, .d6, .d7⟩), none, .convI .i64 (.t ⟨.d0, .d6, .d6⟩)⟩,
  ⟨(some ⟨.d0, .d7, .d0⟩), none, .bin .sub (.t ⟨.d0, .d6, .d7⟩) (.c (.int .i64 (.ofNat 32)))⟩,
  ⟨(some ⟨.d0, .d7, .d1⟩), none, .mv (.t ⟨.d0, .d0, .d6⟩)⟩,
  ⟨(some ⟨.d0, .d7, .d2⟩), none, .callF ⟨.d0, .d2, .d1⟩ [(.t ⟨.d0, .d7, .d1⟩), (.c (.int .i64 (.ofNat 8)))]⟩,
  ⟨(some ⟨.d0, .d7, .d3⟩), none, .buildS none 1 1 [(.int .u32 (.ofNat 0))] [(0, 1, (.t ⟨.d0, .d7, .d2⟩))]⟩,
  ⟨(some ⟨.d0, .d7, .d4⟩), none, .callV (.t ⟨.d0, .d6, .d5⟩) [(.t ⟨.d0, .d7, .d0⟩), (.t ⟨.d0, .d7, .d3⟩)]⟩])))
 (.ops [⟨(some ⟨.d0, .d5, .d4⟩), none, .mv (.t ⟨.d0, .d0, .d6⟩)⟩,
  ⟨(some ⟨.d0, .d5, .d5⟩), none, .bin .add (.t ⟨.d0, .d5, .d4⟩) (.c (.int .i32 (.ofNat 1)))⟩,
  ⟨(some ⟨.d0, .d0, .d6⟩), none, .mv (.t ⟨.d0, .d5, .d5⟩)⟩]))))))
 (.seq (.seq (.ops [⟨(some ⟨.d0, .d7, .d5⟩), none, .build [(.int .i64 (.ofNat 0)), (.int .i64 (.ofNat 0)), (.int .i64 (.ofNat 0)), (.int .i64 (.ofNat 0)), (.int .i64 (.ofNat 0)), (.int .i64 (.ofNat 0)), (.int .i64 (.ofNat 0)), (.int .i64 (.ofNat 0))] [(0, 1, (.c (.int .i64 (.ofNat 768)))), (1, 1, (.c (.int .i64 (.ofNat 769)))), (2, 1, (.c (.int .i64 (.ofNat 770)))), (3, 1, (.c (.int .i64 (.ofNat 771)))), (4, 1, (.c (.int .i64 (.ofNat 772)))), (5, 1, (.c (.int .i64 (.ofNat 776)))), (6, 1, (.c (.int .i64 (.ofNat 778)))), (7, 1, (.c (.int .i64 (.ofNat 807))))]⟩,
  ⟨(some ⟨.d0, .d7, .d6⟩), none, .mv (.c (.int .i64 (.ofNat 0)))⟩])
 (.block 6 (.loop (.seq (.ops [⟨(some ⟨.d0, .d7, .d7⟩), none, .bin .lss (.t ⟨.d0, .d7, .d6⟩) (.c (.int .i64 (.ofNat 8)))⟩])
 (.seq (.cond (.t ⟨.d0, .d7, .d7⟩) .skip (.exit 6))
 (.seq (.block 7 (.seq (.ops [⟨(some ⟨.d1, .d0, .d0⟩), none, .idxV 8 1 none (.t ⟨.d0, .d7, .d5⟩) (.t ⟨.d0, .d7, .d6⟩)⟩,
  ⟨(some ⟨.d0, .d1, .d0⟩), none, .mv (.t ⟨.d1, .d0, .d0⟩)⟩])
 (.ops [⟨(some ⟨.d1, .d0, .d1⟩), none, .mv (.t ⟨.d0, .d0, .d2⟩)⟩,
  ⟨(some ⟨.d1, .d0, .d2⟩), none, .mv (.t ⟨.d0, .d1, .d0⟩)⟩,
  ⟨(some ⟨.d1, .d0, .d3⟩), none, .mv (.t ⟨.d0, .d1, .d0⟩)⟩,
  ⟨(some ⟨.d1, .d0, .d4⟩), none, .callF ⟨.d0, .d2, .d2⟩ [(.t ⟨.d1, .d0, .d3⟩)]⟩,
  ⟨(some ⟨.d1, .d0, .d5⟩), none, .buildS none 1 1 [(.int .u32 (.ofNat 0))] [(0, 1, (.t ⟨.d1, .d0, .d4⟩))]⟩,
  ⟨(some ⟨.d1, .d0, .d6⟩), none, .callV (.t ⟨.d1, .d0, .d1⟩) [(.t ⟨.d1, .d0, .d2⟩), (.t ⟨.d1, .d0, .d5⟩)]⟩])))
 (.ops [⟨(some ⟨.d1, .d0, .d7⟩), none, .bin .add (.t ⟨.d0, .d7, .d6⟩) (.c (.int .i64 (.ofNat 1)))⟩,
  ⟨(some ⟨.d0, .d7, .d6⟩), none, .mv (.t ⟨.d1, .d0, .d7⟩)⟩])))))))
 (.seq (.seq (.ops [⟨(some ⟨.d1, .d1, .d0⟩), none, .buildS none 1 6 [(.int .i64 (.ofNat 0)), (.int .i64 (.ofNat 0)), (.int .i64 (.ofNat 0)), (.int .i64 (.ofNat 0)), (.int .i64 (.ofNat 0)), (.int .i64 (.ofNat 0))] [(0, 1, (.c (.int .i64 (.ofNat 768)))), (1, 1, (.c (.int .i64 (.ofNat 769)))), (2, 1, (.c (.int .i64 (.ofNat 770)))), (3, 1, (.c (.int .i64 (.ofNat 771)))), (4, 1, (.c (.int .i64 (.ofNat 776)))), (5, 1, (.c (.int .i64 (.ofNat 778))))]⟩,
  ⟨(some ⟨.d1, .d1, .d1⟩), none, .build [(.int .i64 (.ofNat 0)), (.int .i32 (.ofNat 0)), .nils] [(0, 1, (.c (.int .i64 (.ofNat 192)))), (1, 1, (.c (.int .i32 (.ofNat 97)))), (2, 1, (.t ⟨.d1, .d1, .d0⟩))]⟩,
  ⟨(some ⟨.d1, .d1, .d2⟩), none, .buildS none 1 1 [(.int .i64 (.ofNat 0))] [(0, 1, (.c (.int .i64 (.ofNat 807))))]⟩,
  ⟨(some ⟨.d1, .d1, .d3⟩), none, .build [(.int .i64 (.ofNat 0)), (.int .i32 (.ofNat 0)), .nils] [(0, 1, (.c (.int .i64 (.ofNat 199)))), (1, 1, (.c (.int .i32 (.ofNat 99)))), (2, 1, (.t ⟨.d1, .d1, .d2⟩))]⟩,
  ⟨(some ⟨.d1, .d1, .d4⟩), none, .buildS none 1 4 [(.int .i64 (.ofNat 0)), (.int .i64 (.ofNat 0)), (.int .i64 (.ofNat 0)), (.int .i64 (.ofNat 0))] [(0, 1, (.c (.int .i64 (.ofNat 768)))), (1, 1, (.c (.int .i64 (.ofNat 769)))), (2, 1, (.c (.int .i64 (.ofNat 770)))), (3, 1, (.c (.int .i64 (.ofNat 776))))]⟩,
  ⟨(some ⟨.d1, .d1, .d5⟩), none, .build [(.int .i64 (.ofNat 0)), (.int .i32 (.ofNat 0)), .nils] [(0, 1, (.c (.int .i64 (.ofNat 200)))), (1, 1, (.c (.int .i32 (.ofNat 101)))), (2, 1, (.t ⟨.d1, .d1, .d4⟩))]⟩,
  ⟨(some ⟨.d1, .d1, .d6⟩), none, .buildS none 1 4 [(.int .i64 (.ofNat 0)), (.int .i64 (.ofNat 0)), (.int .i64 (.ofNat 0)), (.int .i64 (.ofNat 0))] [(0, 1, (.c (.int .i64 (.ofNat 768)))), (1, 1, (.c (.int .i64 (.ofNat 769)))), (2, 1, (.c (.int .i64 (.ofNat 770)))), (3, 1, (.c (.int .i64 (.ofNat 776))))]⟩,
  ⟨(some ⟨.d1, .d1, .d7⟩), none, .build [(.int .i64 (.ofNat 0)), (.int .i32 (.ofNat 0)), .nils] [(0, 1, (.c (.int .i64 (.ofNat 204)))), (1, 1, (.c (.int .i32 (.ofNat 105)))), (2, 1, (.t ⟨.d1, .d1, .d6⟩))]⟩,
  ⟨(some ⟨.d1, .d2, .d0⟩), none, .buildS none 1 1 [(.int .i64 (.ofNat 0))] [(0, 1, (.c (.int .i64 (.ofNat 771))))]⟩,
  ⟨(some ⟨.d1, .d2, .d1⟩), none, .build [(.int .i64 (.ofNat 0)), (.int .i32 (.ofNat 0)), .nils] [(0, 1, (.c (.int .i64 (.ofNat 209)))), (1, 1, (.c (.int .i32 (.ofNat 110)))), (2, 1, (.t ⟨.d1, .d2, .d0⟩))]⟩,
  ⟨(some ⟨.d1, .d2, .d2⟩), none, .buildS none 1 5 [(.int .i64 (.ofNat 0)), (.int .i64 (.ofNat 0)), (.int .i64 (.ofNat 0)), (.int .i64 (.ofNat 0)), (.int .i64 (.ofNat 0))] [(0, 1, (.c (.int .i64 (.ofNat 768)))), (1, 1, (.c (.int .i64 (.ofNat 769)))), (2, 1, (.c (.int .i64 (.ofNat 770)))), (3, 1, (.c (.int .i64 (.ofNat 771)))), (4, 1, (.c (.int .i64 (.ofNat 776))))]⟩,
  ⟨(some ⟨.d1, .d2, .d3⟩), none, .build [(.int .i64 (.ofNat 0)), (.int .i32 (.ofNat 0)), .nils] [(0, 1, (.c (.int .i64 (.ofNat 210)))), (1, 1, (.c (.int .i32 (.ofNat 111)))), (2, 1, (.t ⟨.d1, .d2, .d2⟩))]⟩,
  ⟨(some ⟨.d1, .d2, .d4⟩), none, .buildS none 1 4 [(.int .i64 (.ofNat 0)), (.int .i64 (.ofNat 0)), (.int .i64 (.ofNat 0)), (.int .i64 (.ofNat 0))] [(0, 1, (.c (.int .i64 (.ofNat 768)))), (1, 1, (.c (.int .i64 (.ofNat 769)))), (2, 1, (.c (.int .i64 (.ofNat 770)))), (3, 1, (.c (.int .i64 (.ofNat 776))))]⟩,
  ⟨(some ⟨.d1, .d2, .d5⟩), none, .build [(.int .i64 (.ofNat 0)), (.int .i32 (.ofNat 0)), .nils] [(0, 1, (.c (.int .i64 (.ofNat 217)))), (1, 1, (.c (.int .i32 (.ofNat 117)))), (2, 1, (.t ⟨.d1, .d2, .d4⟩))]⟩,
  ⟨(some ⟨.d1, .d2, .d6⟩), none, .buildS none 1 1 [(.int .i64 (.ofNat 0))] [(0, 1, (.c (.int .i64 (.ofNat 769))))]⟩,
  ⟨(some ⟨.d1, .d2, .d7⟩), none, .build [(.int .i64 (.ofNat 0)), (.int .i32 (.ofNat 0)), .nils] [(0, 1, (.c (.int .i64 (.ofNat 221)))), (1, 1, (.c (.int .i32 (.ofNat 121)))), (2, 1, (.t ⟨.d1, .d2, .d6⟩))]⟩,
  ⟨(some ⟨.d1, .d3, .d0⟩), none, .build [(.int .i64 (.ofNat 0)), (.int .i32 (.ofNat 0)), .nils, (.int .i64 (.ofNat 0)), (.int .i32 (.ofNat 0)), .nils, (.int .i64 (.ofNat 0)), (.int .i32 (.ofNat 0)), .nils, (.int .i64 (.ofNat 0)), (.int .i32 (.ofNat 0)), .nils, (.int .i64 (.ofNat 0)), (.int .i32 (.ofNat 0)), .nils, (.int .i64 (.ofNat 0)), (.int .i32 (.ofNat 0)), .nils, (.int .i64 (.ofNat 0)), (.int .i32 (.ofNat 0)), .nils, (.int .i64 (.ofNat 0)), (.int .i32 (.ofNat 0)), .nils] [(0, 3, (.t ⟨.d1, .d1, .d1⟩)), (3, 3, (.t ⟨.d1, .d1, .d3⟩)), (6, 3, (.t ⟨.d1, .d1, .d5⟩)), (9, 3, (.t ⟨.d1, .d1, .d7⟩)), (12, 3, (.t ⟨.d1, .d2, .d1⟩)), (15, 3, (.t ⟨.d1, .d2, .d3⟩)), (18, 3, (.t ⟨.d1, .d2, .d5⟩)), (21, 3, (.t ⟨.d1, .d2, .d7⟩))]⟩,
  ⟨(some ⟨.d1, .d3, .d1⟩), none, .mv (.c (.int .i64 (.ofNat 0)))⟩])
 (.block 8 (.loop (.seq (.ops [⟨(some ⟨.d1, .d3, .d2⟩), none, .bin .lss (.t ⟨.d1, .d3, .d1⟩) (.c (.int .i64 (.ofNat 8)))⟩])
 (.seq (.cond (.t ⟨.d1, .d3, .d2⟩) .skip (.exit 8))
 (.seq (.block 9 (.seq (.ops [⟨(some ⟨.d1, .d3, .d3⟩), none, .idxV 8 3 (some 3) (.t ⟨.d1, .d3, .d0⟩) (.t ⟨.d1, .d3, .d1⟩)⟩,
  ⟨(some ⟨.d0, .d1, .d2⟩), none, .box none (.c (.agg [(.int .i64 (.ofNat 0)), (.int .i32 (.ofNat 0)), .nils]))⟩,
  ⟨none, none, .store 3 (.t ⟨.d0, .d1, .d2⟩) (.t ⟨.d1, .d3, .d3⟩)⟩])
 (.seq (.ops [⟨(some ⟨.d1, .d3, .d4⟩), none, .fieldA 2 (.t ⟨.d0, .d1, .d2⟩)⟩,
  ⟨(some ⟨.d1, .d3, .d5⟩), none, .load none (.t ⟨.d1, .d3, .d4⟩)⟩,
  ⟨(some ⟨.d1, .d3, .d6⟩), none, .len .sli (.t ⟨.d1, .d3, .d5⟩)⟩,
  ⟨(some ⟨.d1, .d3, .d7⟩), none, .mv (.c (.int .i64 (.ofNat 0)))⟩])
 (.block 10 (.loop (.seq (.ops [⟨(some ⟨.d1, .d4, .d0⟩), none, .bin .lss (.t ⟨.d1, .d3, .d7⟩) (.t ⟨.d1, .d3, .d6⟩)⟩])
 (.seq (.cond (.t ⟨.d1, .d4, .d0⟩) .skip (.exit 10))
 (.seq (.block 11 (.seq (.ops [⟨(some ⟨.d1, .d4, .d1⟩), none, .mv (.t ⟨.d1, .d3, .d7⟩)⟩,
  ⟨(some ⟨.d1, .d4, .d2⟩), none, .idxA none 1 (.t ⟨.d1, .d3, .d5⟩) (.t ⟨.d1, .d3, .d7⟩)⟩,
  ⟨(some ⟨.d1, .d4, .d3⟩), none, .load none (.t ⟨.d1, .d4, .d2⟩)⟩,
  ⟨(some ⟨.d0, .d1, .d3⟩), none, .mv (.t ⟨.d1, .d4, .d1⟩)⟩,
  ⟨(some ⟨.d0, .d1, .d4⟩), none, .mv (.t ⟨.d1, .d4, .d3⟩)⟩])
 (.seq (.reg 1 [(2, [9, 10, 11])] [⟨(some ⟨.d1, .d4, .d4⟩), none, .mv (.t ⟨.d0, .d0, .d2⟩)⟩,
  ⟨(some ⟨.d1, .d4, .d5⟩), none, .fieldA 0 (.t ⟨.d0, .d1, .d2⟩)⟩,
  ⟨(some ⟨.d1, .d4, .d6⟩), none, .load none (.t ⟨.d1, .d4, .d5⟩)⟩,
  ⟨(some ⟨.d1, .d4, .d7⟩), none, .mv (.t ⟨.d0, .d1, .d3⟩)⟩,
  ⟨(some ⟨.d1, .d5, .d0⟩), none, .bin .add (.t ⟨.d1, .d4, .d6⟩) (.t ⟨.d1, .d4, .d7⟩)⟩,
  ⟨(some ⟨.d1, .d5, .d1⟩), none, .fieldA 1 (.t ⟨.d0, .d1, .d2⟩)⟩,
  ⟨(some ⟨.d1, .d5, .d2⟩), none, .load none (.t ⟨.d1, .d5, .d1⟩)⟩,
  ⟨(some ⟨.d1, .d5, .d3⟩), none, .callF ⟨.d0, .d2, .d1⟩ [(.t ⟨.d1, .d5, .d2⟩), (.c (.int .i64 (.ofNat 8)))]⟩,
  ⟨(some ⟨.d1, .d5, .d4⟩), none, .mv (.t ⟨.d0, .d1, .d4⟩)⟩,
  ⟨(some ⟨.d1, .d5, .d5⟩), none, .callF ⟨.d0, .d2, .d2⟩ [(.t ⟨.d1, .d5, .d4⟩)]⟩,
  ⟨(some ⟨.d1, .d5, .d6⟩), none, .buildS (some 0) 1 2 [(.int .u32 (.ofNat 0)), (.int .u32 (.ofNat 0))] [(0, 1, (.t ⟨.d1, .d5, .d3⟩)), (1, 1, (.t ⟨.d1, .d5, .d5⟩))]⟩,
  ⟨(some ⟨.d1, .d5, .d7⟩), none, .callV (.t ⟨.d1, .d4, .d4⟩) [(.t ⟨.d1, .d5, .d0⟩), (.t ⟨.d1, .d5, .d6⟩)]⟩])
 (.reg 1 [(2, [10, 11, 12])] [⟨(some ⟨.d1, .d6, .d0⟩), none, .mv (.t ⟨.d0, .d0, .d2⟩)⟩,
  ⟨(some ⟨.d1, .d6, .d1⟩), none, .fieldA 0 (.t ⟨.d0, .d1, .d2⟩)⟩,
  ⟨(some ⟨.d1, .d6, .d2⟩), none, .load none (.t ⟨.d1, .d6, .d1⟩)⟩,
  ⟨(some ⟨.d1, .d6, .d3⟩), none, .mv (.t ⟨.d0, .d1, .d3⟩)⟩,
  ⟨(some ⟨.d1, .d6, .d4⟩), none, .bin .add (.t ⟨.d1, .d6, .d2⟩) (.t ⟨.d1, .d6, .d3⟩)⟩,
  ⟨(some ⟨.d1, .d6, .d5⟩), none, .bin .add (.t ⟨.d1, .d6, .d4⟩) (.c (.int .i64 (.ofNat 32)))⟩,
  ⟨(some ⟨.d1, .d6, .d6⟩), none, .fieldA 1 (.t ⟨.d0, .d1, .d2⟩)⟩,
  ⟨(some ⟨.d1, .d6, .d7⟩), none, .load none (.t ⟨.d1, .d6, .d6⟩)⟩,
  ⟨(some ⟨.d1, .d7, .d0⟩), none, .callF ⟨.d0, .d2, .d1⟩ [(.t ⟨.d1, .d6, .d7⟩), (.c (.int .i64 (.ofNat 2)))]⟩,
  ⟨(some ⟨.d1, .d7, .d1⟩), none, .mv (.t ⟨.d0, .d1, .d4⟩)⟩,
  ⟨(some ⟨.d1, .d7, .d2⟩), none, .callF ⟨.d0, .d2, .d2⟩ [(.t ⟨.d1, .d7, .d1⟩)]⟩,
  ⟨(some ⟨.d1, .d7, .d3⟩), none, .buildS (some 0) 1 2 [(.int .u32 (.ofNat 0)), (.int .u32 (.ofNat 0))] [(0, 1, (.t ⟨.d1, .d7, .d0⟩)), (1, 1, (.t ⟨.d1, .d7, .d2⟩))]⟩,
  ⟨(some ⟨.d1, .d7, .d4⟩), none, .callV (.t ⟨.d1, .d6, .d0⟩) [(.t ⟨.d1, .d6, .d5⟩), (.t ⟨.d1, .d7, .d3⟩)]⟩]))))
 (.ops [⟨(some ⟨.d1, .d7, .d5⟩), none, .bin .add (.t ⟨.d1, .d3, .d7⟩) (.c (.int .i64 (.ofNat 1)))⟩,
  ⟨(some ⟨.d1, .d3, .d7⟩), none, .mv (.t ⟨.d1, .d7, .d5⟩)⟩])))))))))
 (.ops [⟨(some ⟨.d1, .d7, .d6⟩), none, .bin .add (.t ⟨.d1, .d3, .d1⟩) (.c (.int .i64 (.ofNat 1)))⟩,
  ⟨(some ⟨.d1, .d3, .d1⟩), none, .mv (.t ⟨.d1, .d7, .d6⟩)⟩])))))))
 (.seq (.ops [⟨(some ⟨.d1, .d7, .d7⟩), none, .mv (.t ⟨.d0, .d0, .d2⟩)⟩,
  ⟨(some ⟨.d2, .d0, .d0⟩), none, .callF ⟨.d0, .d2, .d1⟩ [(.c (.int .i32 (.ofNat 115))), (.c (.int .i64 (.ofNat 4)))]⟩,
  ⟨(some ⟨.d2, .d0, .d1⟩), none, .callF ⟨.d0, .d2, .d1⟩ [(.c (.int .i32 (.ofNat 115))), (.c (.int .i64 (.ofNat 4)))]⟩,
  ⟨(some ⟨.d2, .d0, .d2⟩), none, .buildS none 1 2 [(.int .u32 (.ofNat 0)), (.int .u32 (.ofNat 0))] [(0, 1, (.t ⟨.d2, .d0, .d0⟩)), (1, 1, (.t ⟨.d2, .d0, .d1⟩))]⟩,
  ⟨(some ⟨.d2, .d0, .d3⟩), none, .callV (.t ⟨.d1, .d7, .d7⟩) [(.c (.int .i64 (.ofNat 223))), (.t ⟨.d2, .d0, .d2⟩)]⟩])
 (.seq (.ops [⟨(some ⟨.d2, .d0, .d4⟩), none, .mv (.t ⟨.d0, .d0, .d2⟩)⟩,
  ⟨(some ⟨.d2, .d0, .d5⟩), none, .callF ⟨.d0, .d2, .d1⟩ [(.c (.int .i32 (.ofNat 97))), (.c (.int .i64 (.ofNat 10)))]⟩,
  ⟨(some ⟨.d2, .d0, .d6⟩), none, .callF ⟨.d0, .d2, .d1⟩ [(.c (.int .i32 (.ofNat 101))), (.c (.int .i64 (.ofNat 10)))]⟩,
  ⟨(some ⟨.d2, .d0, .d7⟩), none, .buildS none 1 2 [(.int .u32 (.ofNat 0)), (.int .u32 (.ofNat 0))] [(0, 1, (.t ⟨.d2, .d0, .d5⟩)), (1, 1, (.t ⟨.d2, .d0, .d6⟩))]⟩,
  ⟨(some ⟨.d2, .d1, .d0⟩), none, .callV (.t ⟨.d2, .d0, .d4⟩) [(.c (.int .i64 (.ofNat 198))), (.t ⟨.d2, .d0, .d7⟩)]⟩])
 (.seq (.ops [⟨(some ⟨.d2, .d1, .d1⟩), none, .mv (.t ⟨.d0, .d0, .d2⟩)⟩,
  ⟨(some ⟨.d2, .d1, .d2⟩), none, .callF ⟨.d0, .d2, .d1⟩ [(.c (.int .i32 (.ofNat 97))), (.c (.int .i64 (.ofNat 4)))]⟩,
  ⟨(some ⟨.d2, .d1, .d3⟩), none, .callF ⟨.d0, .d2, .d1⟩ [(.c (.int .i32 (.ofNat 101))), (.c (.int .i64 (.ofNat 4)))]⟩,
  ⟨(some ⟨.d2, .d1, .d4⟩), none, .buildS none 1 2 [(.int .u32 (.ofNat 0)), (.int .u32 (.ofNat 0))] [(0, 1, (.t ⟨.d2, .d1, .d2⟩)), (1, 1, (.t ⟨.d2, .d1, .d3⟩))]⟩,
  ⟨(some ⟨.d2, .d1, .d5⟩), none, .callV (.t ⟨.d2, .d1, .d1⟩) [(.c (.int .i64 (.ofNat 230))), (.t ⟨.d2, .d1, .d4⟩)]⟩])
 (.seq (.ops [⟨(some ⟨.d2, .d1, .d6⟩), none, .mv (.t ⟨.d0, .d0, .d2⟩)⟩,
  ⟨(some ⟨.d2, .d1, .d7⟩), none, .callV (.t ⟨.d2, .d1, .d6⟩) [(.c (.int .i64 (.ofNat 173))), (.c .nils)]⟩])
 (.seq (.ops [⟨(some ⟨.d2, .d2, .d0⟩), none, .load none (.t ⟨.d0, .d0, .d1⟩)⟩,
  ⟨(some ⟨.d2, .d2, .d1⟩), none, .callF ⟨.d0, .d2, .d3⟩ [(.t ⟨.d2, .d2, .d0⟩)]⟩,
  ⟨(some ⟨.d0, .d0, .d0⟩), none, .mv (.t ⟨.d2, .d2, .d1⟩)⟩])
 .ret)))))))))))))
 [.tmp ⟨.d0, .d0, .d0⟩]
/-- umlaut/table.Root$1 -/
def e15 : Ent := .code [⟨.d0, .d0, .d0⟩, ⟨.d0, .d0, .d1⟩, ⟨.d0, .d0, .d2⟩]
 (.ops [⟨(some ⟨.d0, .d0, .d5⟩), none, .load none (.t ⟨.d0, .d0, .d2⟩)⟩,
  ⟨(some ⟨.d0, .d0, .d6⟩), none, .mv (.t ⟨.d0, .d0, .d0⟩)⟩,
  ⟨(some ⟨.d0, .d0, .d7⟩), none, .bin .add (.t ⟨.d0, .d0, .d6⟩) (.c (.int .i64 (.ofNat 1)))⟩,
  ⟨(some ⟨.d0, .d1, .d0⟩), none, .build [(.int .i64 (.ofNat 0)), (.int .i64 (.ofNat 0)), (.int .i64 (.ofNat 0))] [(0, 1, (.t ⟨.d0, .d0, .d7⟩))]⟩,
  ⟨(some ⟨.d0, .d1, .d1⟩), none, .mv (.t ⟨.d0, .d0, .d1⟩)⟩,
  ⟨none, none, .upd (.flat [.i, .i, .i]) (.t ⟨.d0, .d0, .d5⟩) (.t ⟨.d0, .d1, .d0⟩) (.t ⟨.d0, .d1, .d1⟩)⟩])
 []
/-- umlaut/table.of -/
def e16 : Ent := .code [⟨.d0, .d0, .d0⟩, ⟨.d0, .d0, .d1⟩, ⟨.d0, .d0, .d2⟩, ⟨.d0, .d0, .d3⟩]
 (.seq (.ops [⟨(some ⟨.d0, .d1, .d0⟩), none, .mv (.c (.int .u32 (.ofNat 0)))⟩])
 (.seq (.ops [⟨(some ⟨.d0, .d1, .d4⟩), none, .mv (.t ⟨.d0, .d0, .d0⟩)⟩,
  ⟨(some ⟨.d0, .d1, .d5⟩), none, .mv (.t ⟨.d0, .d0, .d1⟩)⟩,
  ⟨(some ⟨.d0, .d1, .d6⟩), none, .mv (.t ⟨.d0, .d0, .d2⟩)⟩,
  ⟨(some ⟨.d0, .d1, .d7⟩), none, .mv (.t ⟨.d0, .d0, .d3⟩)⟩,
  ⟨(some ⟨.d0, .d2, .d0⟩), none, .callF ⟨.d0, .d3, .d3⟩ [(.t ⟨.d0, .d1, .d4⟩), (.t ⟨.d0, .d1, .d5⟩), (.t ⟨.d0, .d1, .d6⟩), (.t ⟨.d0, .d1, .d7⟩)]⟩,
  ⟨(some ⟨.d0, .d1, .d3⟩), none, .mv (.t ⟨.d0, .d2, .d0⟩)⟩,
  ⟨(some ⟨.d0, .d2, .d1⟩), none, .ext (.t ⟨.d0, .d1, .d3⟩) 0⟩,
  ⟨(some ⟨.d0, .d2, .d2⟩), none, .ext (.t ⟨.d0, .d1, .d3⟩) 1⟩,
  ⟨(some ⟨.d0, .d1, .d1⟩), none, .mv (.t ⟨.d0, .d2, .d1⟩)⟩,
  ⟨(some ⟨.d0, .d1, .d2⟩), none, .mv (.t ⟨.d0, .d2, .d2⟩)⟩])
 (.seq (.ops [⟨(some ⟨.d0, .d2, .d3⟩), none, .mv (.t ⟨.d0, .d1, .d1⟩)⟩,
  ⟨(some ⟨.d0, .d1, .d0⟩), none, .mv (.t ⟨.d0, .d2, .d3⟩)⟩])
 .ret)))
 [.tmp ⟨.d0, .d1, .d0⟩]
/-- umlaut/table.letter -/
def e17 : Ent := .code [⟨.d0, .d0, .d0⟩, ⟨.d0, .d0, .d1⟩]
 (.seq (.ops [⟨(some ⟨.d0, .d0, .d4⟩), none, .mv (.c (.int .u32 (.ofNat 0)))⟩])
 (.seq (.ops [⟨(some ⟨.d0, .d0, .d5⟩), none, .mv (.t ⟨.d0, .d0, .d0⟩)⟩,
  ⟨(some ⟨.d0, .d0, .d6⟩), none, .bin .sub (.t ⟨.d0, .d0, .d5⟩) (.c (.int .i32 (.ofNat 97)))⟩,
  ⟨(some ⟨.d0, .d0, .d7⟩), none, .convI .i64 (.t ⟨.d0, .d0, .d6⟩)⟩,
  ⟨(some ⟨.d0, .d1, .d0⟩), none, .bin .mul (.c (.int .i64 (.ofNat 8))) (.t ⟨.d0, .d0, .d7⟩)⟩,
  ⟨(some ⟨.d0, .d1, .d1⟩), none, .bin .add (.c (.int .i64 (.ofNat 256))) (.t ⟨.d0, .d1, .d0⟩)⟩,
  ⟨(some ⟨.d0, .d1, .d2⟩), none, .mv (.t ⟨.d0, .d0, .d1⟩)⟩,
  ⟨(some ⟨.d0, .d1, .d3⟩), none, .callF ⟨.d0, .d2, .d0⟩ [(.t ⟨.d0, .d1, .d1⟩), (.c (.int .i64 (.ofNat 32))), (.t ⟨.d0, .d1, .d2⟩), (.c (.bool false))]⟩,
  ⟨(some ⟨.d0, .d0, .d4⟩), none, .mv (.t ⟨.d0, .d1, .d3⟩)⟩])
 .ret))
 [.tmp ⟨.d0, .d0, .d4⟩]
/-- umlaut/table.mark -/
def e18 : Ent := .code [⟨.d0, .d0, .d0⟩]
 (.seq (.ops [⟨(some ⟨.d0, .d0, .d2⟩), none, .mv (.c (.int .u32 (.ofNat 0)))⟩])
 (.seq (.ops [⟨(some ⟨.d0, .d0, .d3⟩), none, .mv (.c (.int .i64 (.ofNat 48)))⟩])
 (.seq (.seq (.ops [⟨(some ⟨.d0, .d0, .d4⟩), none, .mv (.t ⟨.d0, .d0, .d0⟩)⟩])
 (.block 0 (.seq (.ops [⟨(some ⟨.d0, .d0, .d6⟩), none, .bin .eql (.t ⟨.d0, .d0, .d4⟩) (.c (.int .i64 (.ofNat 776)))⟩,
  ⟨(some ⟨.d0, .d0, .d5⟩), none, .mv (.t ⟨.d0, .d0, .d6⟩)⟩])
 (.cond (.t ⟨.d0, .d0, .d5⟩) (.ops [⟨(some ⟨.d0, .d0, .d3⟩), none, .mv (.c (.int .i64 (.ofNat 43)))⟩]) (.seq (.ops [⟨(some ⟨.d0, .d1, .d0⟩), none, .bin .eql (.t ⟨.d0, .d0, .d4⟩) (.c (.int .i64 (.ofNat 778)))⟩,
  ⟨(some ⟨.d0, .d0, .d7⟩), none, .mv (.t ⟨.d0, .d1, .d0⟩)⟩])
 (.cond (.t ⟨.d0, .d0, .d7⟩) (.ops [⟨(some ⟨.d0, .d0, .d3⟩), none, .mv (.c (.int .i64 (.ofNat 41)))⟩]) (.seq (.seq (.ops [⟨(some ⟨.d0, .d1, .d2⟩), none, .bin .eql (.t ⟨.d0, .d0, .d4⟩) (.c (.int .i64 (.ofNat 768)))⟩,
  ⟨(some ⟨.d0, .d1, .d1⟩), none, .mv (.t ⟨.d0, .d1, .d2⟩)⟩])
 (.cond (.t ⟨.d0, .d1, .d1⟩) .skip (.seq (.ops [⟨(some ⟨.d0, .d1, .d3⟩), none, .bin .eql (.t ⟨.d0, .d0, .d4⟩) (.c (.int .i64 (.ofNat 769)))⟩,
  ⟨(some ⟨.d0, .d1, .d1⟩), none, .mv (.t ⟨.d0, .d1, .d3⟩)⟩])
 (.cond (.t ⟨.d0, .d1, .d1⟩) .skip (.seq (.ops [⟨(some ⟨.d0, .d1, .d4⟩), none, .bin .eql (.t ⟨.d0, .d0, .d4⟩) (.c (.int .i64 (.ofNat 770)))⟩,
  ⟨(some ⟨.d0, .d1, .d1⟩), none, .mv (.t ⟨.d0, .d1, .d4⟩)⟩])
 (.cond (.t ⟨.d0, .d1, .d1⟩) .skip (.seq (.ops [⟨(some ⟨.d0, .d1, .d5⟩), none, .bin .eql (.t ⟨.d0, .d0, .d4⟩) (.c (.int .i64 (.ofNat 771)))⟩,
  ⟨(some ⟨.d0, .d1, .d1⟩), none, .mv (.t ⟨.d0, .d1, .d5⟩)⟩])
 (.cond (.t ⟨.d0, .d1, .d1⟩) .skip (.ops [⟨(some ⟨.d0, .d1, .d6⟩), none, .bin .eql (.t ⟨.d0, .d0, .d4⟩) (.c (.int .i64 (.ofNat 772)))⟩,
  ⟨(some ⟨.d0, .d1, .d1⟩), none, .mv (.t ⟨.d0, .d1, .d6⟩)⟩])))))))))
 (.cond (.t ⟨.d0, .d1, .d1⟩) (.ops [⟨(some ⟨.d0, .d1, .d7⟩), none, .build [(.int .i64 (.ofNat 0)), (.int .i64 (.ofNat 0)), (.int .i64 (.ofNat 0)), (.int .i64 (.ofNat 0)), (.int .i64 (.ofNat 0))] [(0, 1, (.c (.int .i64 (.ofNat 37)))), (1, 1, (.c (.int .i64 (.ofNat 36)))), (2, 1, (.c (.int .i64 (.ofNat 39)))), (3, 1, (.c (.int .i64 (.ofNat 45)))), (4, 1, (.c (.int .i64 (.ofNat 47))))]⟩,
  ⟨(some ⟨.d0, .d2, .d0⟩), none, .mv (.t ⟨.d0, .d0, .d0⟩)⟩,
  ⟨(some ⟨.d0, .d2, .d1⟩), none, .bin .sub (.t ⟨.d0, .d2, .d0⟩) (.c (.int .i64 (.ofNat 768)))⟩,
  ⟨(some ⟨.d0, .d2, .d2⟩), none, .idxV 5 1 none (.t ⟨.d0, .d1, .d7⟩) (.t ⟨.d0, .d2, .d1⟩)⟩,
  ⟨(some ⟨.d0, .d0, .d3⟩), none, .mv (.t ⟨.d0, .d2, .d2⟩)⟩]) .skip))))))))
 (.seq (.ops [⟨(some ⟨.d0, .d2, .d3⟩), none, .mv (.t ⟨.d0, .d0, .d3⟩)⟩,
  ⟨(some ⟨.d0, .d2, .d4⟩), none, .callF ⟨.d0, .d2, .d0⟩ [(.c (.int .i64 (.ofNat 0))), (.t ⟨.d0, .d2, .d3⟩), (.c (.int .i64 (.ofNat 2))), (.c (.bool false))]⟩,
  ⟨(some ⟨.d0, .d0, .d2⟩), none, .mv (.t ⟨.d0, .d2, .d4⟩)⟩])
 .ret))))
 [.tmp ⟨.d0, .d0, .d2⟩]
/-- umlaut/elem.Make -/
def e27 : Ent := .code [⟨.d0, .d0, .d0⟩, ⟨.d0, .d0, .d1⟩, ⟨.d0, .d0, .d2⟩, ⟨.d0, .d0, .d3⟩]
 (.seq (.ops [⟨(some ⟨.d0, .d1, .d0⟩), none, .mv (.c (.int .u32 (.ofNat 0)))⟩,
  ⟨(some ⟨.d0, .d1, .d1⟩), none, .mv (.c (.int .i64 (.ofNat 0)))⟩])
 (.seq (.ops [⟨(some ⟨.d0, .d1, .d2⟩), none, .mv (.c (.int .u32 (.ofNat 0)))⟩])
 (.seq (.seq (.ops [⟨(some ⟨.d0, .d1, .d7⟩), none, .mv (.t ⟨.d0, .d0, .d0⟩)⟩,
  ⟨(some ⟨.d0, .d2, .d0⟩), none, .mv (.t ⟨.d0, .d0, .d1⟩)⟩,
  ⟨(some ⟨.d0, .d2, .d1⟩), none, .mv (.t ⟨.d0, .d0, .d2⟩)⟩,
  ⟨(some ⟨.d0, .d2, .d2⟩), none, .build [(.int .i64 (.ofNat 0)), (.int .i64 (.ofNat 0)), (.int .i64 (.ofNat 0))] [(0, 1, (.t ⟨.d0, .d1, .d7⟩)), (1, 1, (.t ⟨.d0, .d2, .d0⟩)), (2, 1, (.t ⟨.d0, .d2, .d1⟩))]⟩,
  ⟨(some ⟨.d0, .d2, .d3⟩), none, .mv (.c (.int .i64 (.ofNat 0)))⟩])
 (.block 0 (.loop (.seq (.ops [⟨(some ⟨.d0, .d2, .d4⟩), none, .bin .lss (.t ⟨.d0, .d2, .d3⟩) (.c (.int .i64 (.ofNat 3)))⟩])
 (.seq (.cond (.t ⟨.d0, .d2, .d4⟩) .skip (.exit 0))
 (.seq (.block 1 (.seq (.ops [⟨(some ⟨.d0, .d2, .d5⟩), none, .mv (.t ⟨.d0, .d2, .d3⟩)⟩,
  ⟨(some ⟨.d0, .d2, .d6⟩), none, .idxV 3 1 none (.t ⟨.d0, .d2, .d2⟩) (.t ⟨.d0, .d2, .d3⟩)⟩,
  ⟨(some ⟨.d0, .d1, .d3⟩), none, .mv (.t ⟨.d0, .d2, .d5⟩)⟩,
  ⟨(some ⟨.d0, .d1, .d4⟩), none, .mv (.t ⟨.d0, .d2, .d6⟩)⟩])
 (.seq (.ops [⟨(some ⟨.d0, .d3, .d0⟩), none, .mv (.t ⟨.d0, .d1, .d3⟩)⟩,
  ⟨(some ⟨.d0, .d3, .d1⟩), none, .bin .add (.t ⟨.d0, .d3, .d0⟩) (.c (.int .i64 (.ofNat 1)))⟩,
  ⟨(some ⟨.d0, .d3, .d2⟩), none, .callF ⟨.d0, .d4, .d7⟩ [(.t ⟨.d0, .d3, .d1⟩)]⟩,
  ⟨(some ⟨.d0, .d2, .d7⟩), none, .mv (.t ⟨.d0, .d3, .d2⟩)⟩,
  ⟨(some ⟨.d0, .d3, .d3⟩), none, .ext (.t ⟨.d0, .d2, .d7⟩) 0⟩,
  ⟨(some ⟨.d0, .d3, .d4⟩), none, .ext (.t ⟨.d0, .d2, .d7⟩) 1⟩,
  ⟨(some ⟨.d0, .d1, .d5⟩), none, .mv (.t ⟨.d0, .d3, .d3⟩)⟩,
  ⟨(some ⟨.d0, .d1, .d6⟩), none, .mv (.t ⟨.d0, .d3, .d4⟩)⟩])
 (.seq (.seq (.ops [⟨(some ⟨.d0, .d3, .d5⟩), none, .mv (.t ⟨.d0, .d1, .d4⟩)⟩,
  ⟨(some ⟨.d0, .d3, .d6⟩), none, .bin .lss (.t ⟨.d0, .d3, .d5⟩) (.c (.int .i64 (.ofNat 0)))⟩,
  ⟨(some ⟨.d0, .d3, .d7⟩), none, .mv (.t ⟨.d0, .d3, .d6⟩)⟩,
  ⟨(some ⟨.d0, .d4, .d0⟩), (some (⟨.d0, .d3, .d7⟩, false)), .mv (.t ⟨.d0, .d1, .d4⟩)⟩,
  ⟨(some ⟨.d0, .d4, .d1⟩), (some (⟨.d0, .d3, .d7⟩, false)), .mv (.t ⟨.d0, .d1, .d6⟩)⟩,
  ⟨(some ⟨.d0, .d4, .d2⟩), (some (⟨.d0, .d3, .d7⟩, false)), .bin .shl (.c (.int .i64 (.ofNat 1))) (.t ⟨.d0, .d4, .d1⟩)⟩,
  ⟨(some ⟨.d0, .d4, .d3⟩), (some (⟨.d0, .d3, .d7⟩, false)), .bin .geq (.t ⟨.d0, .d4, .d0⟩) (.t ⟨.d0, .d4, .d2⟩)⟩,
  ⟨(some ⟨.d0, .d4, .d4⟩), none, .pick (.t ⟨.d0, .d3, .d7⟩) (.c (.bool true)) (.t ⟨.d0, .d4, .d3⟩)⟩])
 (.cond (.t ⟨.d0, .d4, .d4⟩) (.seq (.ops [⟨(some ⟨.d0, .d1, .d0⟩), none, .mv (.c (.int .u32 (.ofNat 0)))⟩,
  ⟨(some ⟨.d0, .d1, .d1⟩), none, .mv (.c (.int .i64 (.ofNat 1)))⟩])
 .ret) .skip))
 (.ops [⟨(some ⟨.d0, .d4, .d5⟩), none, .mv (.t ⟨.d0, .d1, .d2⟩)⟩,
  ⟨(some ⟨.d0, .d4, .d6⟩), none, .mv (.t ⟨.d0, .d1, .d3⟩)⟩,
  ⟨(some ⟨.d0, .d4, .d7⟩), none, .bin .add (.t ⟨.d0, .d4, .d6⟩) (.c (.int .i64 (.ofNat 1)))⟩,
  ⟨(some ⟨.d0, .d5, .d0⟩), none, .mv (.t ⟨.d0, .d1, .d4⟩)⟩,
  ⟨(some ⟨.d0, .d5, .d1⟩), none, .callF ⟨.d0, .d5, .d0⟩ [(.t ⟨.d0, .d4, .d5⟩), (.t ⟨.d0, .d4, .d7⟩), (.t ⟨.d0, .d5, .d0⟩)]⟩,
  ⟨(some ⟨.d0, .d1, .d2⟩), none, .mv (.t ⟨.d0, .d5, .d1⟩)⟩])))))
 (.ops [⟨(some ⟨.d0, .d5, .d2⟩), none, .bin .add (.t ⟨.d0, .d2, .d3⟩) (.c (.int .i64 (.ofNat 1)))⟩,
  ⟨(some ⟨.d0, .d2, .d3⟩), none, .mv (.t ⟨.d0, .d5, .d2⟩)⟩])))))))
 (.seq (.seq (.ops [⟨(some ⟨.d0, .d5, .d3⟩), none, .mv (.t ⟨.d0, .d0, .d3⟩)⟩])
 (.cond (.t ⟨.d0, .d5, .d3⟩) (.ops [⟨(some ⟨.d0, .d5, .d4⟩), none, .mv (.t ⟨.d0, .d1, .d2⟩)⟩,
  ⟨(some ⟨.d0, .d5, .d5⟩), none, .bin .or (.t ⟨.d0, .d5, .d4⟩) (.c (.int .u32 (.ofNat 1)))⟩,
  ⟨(some ⟨.d0, .d1, .d2⟩), none, .mv (.t ⟨.d0, .d5, .d5⟩)⟩]) .skip))
 (.seq (.ops [⟨(some ⟨.d0, .d5, .d6⟩), none, .mv (.t ⟨.d0, .d1, .d2⟩)⟩,
  ⟨(some ⟨.d0, .d1, .d0⟩), none, .mv (.t ⟨.d0, .d5, .d6⟩)⟩,
  ⟨(some ⟨.d0, .d1, .d1⟩), none, .mv (.c (.int .i64 (.ofNat 0)))⟩])
 .ret)))))
 [.tmp ⟨.d0, .d1, .d0⟩, .tmp ⟨.d0, .d1, .d1⟩]
/-- umlaut/elem.field -/
def e39 : Ent := .code [⟨.d0, .d0, .d0⟩]
 (.seq (.ops [⟨(some ⟨.d0, .d0, .d2⟩), none, .mv (.c (.int .i64 (.ofNat 0)))⟩,
  ⟨(some ⟨.d0, .d0, .d3⟩), none, .mv (.c (.int .i64 (.ofNat 0)))⟩])
 (.seq (.seq (.ops [⟨(some ⟨.d0, .d0, .d4⟩), none, .mv (.t ⟨.d0, .d0, .d0⟩)⟩])
 (.block 0 (.seq (.ops [⟨(some ⟨.d0, .d0, .d6⟩), none, .bin .eql (.t ⟨.d0, .d0, .d4⟩) (.c (.int .i64 (.ofNat 1)))⟩,
  ⟨(some ⟨.d0, .d0, .d5⟩), none, .mv (.t ⟨.d0, .d0, .d6⟩)⟩])
 (.cond (.t ⟨.d0, .d0, .d5⟩) (.seq (.ops [⟨(some ⟨.d0, .d0, .d2⟩), none, .mv (.c (.int .i64 (.ofNat 16)))⟩,
  ⟨(some ⟨.d0, .d0, .d3⟩), none, .mv (.c (.int .i64 (.ofNat 16)))⟩])
 .ret) (.seq (.ops [⟨(some ⟨.d0, .d1, .d0⟩), none, .bin .eql (.t ⟨.d0, .d0, .d4⟩) (.c (.int .i64 (.ofNat 2)))⟩,
  ⟨(some ⟨.d0, .d0, .d7⟩), none, .mv (.t ⟨.d0, .d1, .d0⟩)⟩])
 (.cond (.t ⟨.d0, .d0, .d7⟩) (.seq (.ops [⟨(some ⟨.d0, .d0, .d2⟩), none, .mv (.c (.int .i64 (.ofNat 8)))⟩,
  ⟨(some ⟨.d0, .d0, .d3⟩), none, .mv (.c (.int .i64 (.ofNat 8)))⟩])
 .ret) (.seq (.ops [⟨(some ⟨.d0, .d1, .d2⟩), none, .bin .eql (.t ⟨.d0, .d0, .d4⟩) (.c (.int .i64 (.ofNat 3)))⟩,
  ⟨(some ⟨.d0, .d1, .d1⟩), none, .mv (.t ⟨.d0, .d1, .d2⟩)⟩])
 (.cond (.t ⟨.d0, .d1, .d1⟩) (.seq (.ops [⟨(some ⟨.d0, .d0, .d2⟩), none, .mv (.c (.int .i64 (.ofNat 1)))⟩,
  ⟨(some ⟨.d0, .d0, .d3⟩), none, .mv (.c (.int .i64 (.ofNat 7)))⟩])
 .ret) .skip))))))))
 (.seq (.ops [⟨(some ⟨.d0, .d0, .d2⟩), none, .mv (.c (.int .i64 (.ofNat 0)))⟩,
  ⟨(some ⟨.d0, .d0, .d3⟩), none, .mv (.c (.int .i64 (.ofNat 0)))⟩])
 .ret)))
 [.tmp ⟨.d0, .d0, .d2⟩, .tmp ⟨.d0, .d0, .d3⟩]
/-- (umlaut/elem.Elem).With -/
def e40 : Ent := .code [⟨.d0, .d0, .d0⟩, ⟨.d0, .d0, .d1⟩, ⟨.d0, .d0, .d2⟩]
 (.seq (.ops [⟨(some ⟨.d0, .d0, .d6⟩), none, .mv (.c (.int .u32 (.ofNat 0)))⟩])
 (.seq (.ops [⟨(some ⟨.d0, .d1, .d2⟩), none, .mv (.t ⟨.d0, .d0, .d1⟩)⟩,
  ⟨(some ⟨.d0, .d1, .d3⟩), none, .callF ⟨.d0, .d4, .d7⟩ [(.t ⟨.d0, .d1, .d2⟩)]⟩,
  ⟨(some ⟨.d0, .d1, .d1⟩), none, .mv (.t ⟨.d0, .d1, .d3⟩)⟩,
  ⟨(some ⟨.d0, .d1, .d4⟩), none, .ext (.t ⟨.d0, .d1, .d1⟩) 0⟩,
  ⟨(some ⟨.d0, .d1, .d5⟩), none, .ext (.t ⟨.d0, .d1, .d1⟩) 1⟩,
  ⟨(some ⟨.d0, .d0, .d7⟩), none, .mv (.t ⟨.d0, .d1, .d4⟩)⟩,
  ⟨(some ⟨.d0, .d1, .d0⟩), none, .mv (.t ⟨.d0, .d1, .d5⟩)⟩])
 (.seq (.ops [⟨(some ⟨.d0, .d1, .d6⟩), none, .mv (.t ⟨.d0, .d0, .d0⟩)⟩,
  ⟨(some ⟨.d0, .d1, .d7⟩), none, .convI .u64 (.t ⟨.d0, .d1, .d6⟩)⟩,
  ⟨(some ⟨.d0, .d2, .d0⟩), none, .mv (.t ⟨.d0, .d0, .d7⟩)⟩,
  ⟨(some ⟨.d0, .d2, .d1⟩), none, .mv (.t ⟨.d0, .d1, .d0⟩)⟩,
  ⟨(some ⟨.d0, .d2, .d2⟩), none, .mv (.t ⟨.d0, .d0, .d2⟩)⟩,
  ⟨(some ⟨.d0, .d2, .d3⟩), none, .convI .u64 (.t ⟨.d0, .d2, .d2⟩)⟩,
  ⟨(some ⟨.d0, .d2, .d4⟩), none, .callF ⟨.d0, .d6, .d3⟩ [(.t ⟨.d0, .d1, .d7⟩), (.t ⟨.d0, .d2, .d0⟩), (.t ⟨.d0, .d2, .d1⟩), (.t ⟨.d0, .d2, .d3⟩)]⟩,
  ⟨(some ⟨.d0, .d2, .d5⟩), none, .convI .u32 (.t ⟨.d0, .d2, .d4⟩)⟩,
  ⟨(some ⟨.d0, .d0, .d6⟩), none, .mv (.t ⟨.d0, .d2, .d5⟩)⟩])
 .ret)))
 [.tmp ⟨.d0, .d0, .d6⟩]
/-- umlaut/ints.Set -/
def e51 : Ent := .code [⟨.d0, .d0, .d0⟩, ⟨.d0, .d0, .d1⟩, ⟨.d0, .d0, .d2⟩, ⟨.d0, .d0, .d3⟩]
 (.seq (.ops [⟨(some ⟨.d0, .d1, .d0⟩), none, .mv (.c (.int .u64 (.ofNat 0)))⟩])
 (.seq (.ops [⟨(some ⟨.d0, .d1, .d2⟩), none, .mv (.t ⟨.d0, .d0, .d1⟩)⟩,
  ⟨(some ⟨.d0, .d1, .d3⟩), none, .mv (.t ⟨.d0, .d0, .d2⟩)⟩,
  ⟨(some ⟨.d0, .d1, .d4⟩), none, .callF ⟨.d1, .d1, .d2⟩ [(.t ⟨.d0, .d1, .d2⟩), (.t ⟨.d0, .d1, .d3⟩)]⟩,
  ⟨(some ⟨.d0, .d1, .d1⟩), none, .mv (.t ⟨.d0, .d1, .d4⟩)⟩])
 (.seq (.ops [⟨(some ⟨.d0, .d1, .d5⟩), none, .mv (.t ⟨.d0, .d0, .d0⟩)⟩,
  ⟨(some ⟨.d0, .d1, .d6⟩), none, .mv (.t ⟨.d0, .d1, .d1⟩)⟩,
  ⟨(some ⟨.d0, .d1, .d7⟩), none, .bin .andNot (.t ⟨.d0, .d1, .d5⟩) (.t ⟨.d0, .d1, .d6⟩)⟩,
  ⟨(some ⟨.d0, .d2, .d0⟩), none, .mv (.t ⟨.d0, .d0, .d3⟩)⟩,
  ⟨(some ⟨.d0, .d2, .d1⟩), none, .mv (.t ⟨.d0, .d0, .d1⟩)⟩,
  ⟨(some ⟨.d0, .d2, .d2⟩), none, .max2 (.t ⟨.d0, .d2, .d1⟩) (.c (.int .i64 (.ofNat 0)))⟩,
  ⟨(some ⟨.d0, .d2, .d3⟩), none, .min2 (.t ⟨.d0, .d2, .d2⟩) (.c (.int .i64 (.ofNat 64)))⟩,
  ⟨(some ⟨.d0, .d2, .d4⟩), none, .bin .shl (.t ⟨.d0, .d2, .d0⟩) (.t ⟨.d0, .d2, .d3⟩)⟩,
  ⟨(some ⟨.d0, .d2, .d5⟩), none, .mv (.t ⟨.d0, .d1, .d1⟩)⟩,
  ⟨(some ⟨.d0, .d2, .d6⟩), none, .bin .and (.t ⟨.d0, .d2, .d4⟩) (.t ⟨.d0, .d2, .d5⟩)⟩,
  ⟨(some ⟨.d0, .d2, .d7⟩), none, .bin .or (.t ⟨.d0, .d1, .d7⟩) (.t ⟨.d0, .d2, .d6⟩)⟩,
  ⟨(some ⟨.d0, .d1, .d0⟩), none, .mv (.t ⟨.d0, .d2, .d7⟩)⟩])
 .ret)))
 [.tmp ⟨.d0, .d1, .d0⟩]
/-- umlaut/ints.mask -/
def e74 : Ent := .code [⟨.d0, .d0, .d0⟩, ⟨.d0, .d0, .d1⟩]
 (.seq (.ops [⟨(some ⟨.d0, .d0, .d4⟩), none, .mv (.c (.int .u64 (.ofNat 0)))⟩])
 (.seq (.seq (.ops [⟨(some ⟨.d0, .d0, .d6⟩), none, .mv (.t ⟨.d0, .d0, .d0⟩)⟩,
  ⟨(some ⟨.d0, .d0, .d7⟩), none, .bin .lss (.t ⟨.d0, .d0, .d6⟩) (.c (.int .i64 (.ofNat 0)))⟩,
  ⟨(some ⟨.d0, .d1, .d0⟩), none, .mv (.t ⟨.d0, .d0, .d7⟩)⟩,
  ⟨(some ⟨.d0, .d1, .d1⟩), (some (⟨.d0, .d1, .d0⟩, false)), .mv (.t ⟨.d0, .d0, .d0⟩)⟩,
  ⟨(some ⟨.d0, .d1, .d2⟩), (some (⟨.d0, .d1, .d0⟩, false)), .bin .geq (.t ⟨.d0, .d1, .d1⟩) (.c (.int .i64 (.ofNat 64)))⟩,
  ⟨(some ⟨.d0, .d1, .d3⟩), none, .pick (.t ⟨.d0, .d1, .d0⟩) (.c (.bool true)) (.t ⟨.d0, .d1, .d2⟩)⟩,
  ⟨(some ⟨.d0, .d1, .d4⟩), none, .mv (.t ⟨.d0, .d1, .d3⟩)⟩,
  ⟨(some ⟨.d0, .d1, .d5⟩), (some (⟨.d0, .d1, .d4⟩, false)), .mv (.t ⟨.d0, .d0, .d1⟩)⟩,
  ⟨(some ⟨.d0, .d1, .d6⟩), (some (⟨.d0, .d1, .d4⟩, false)), .bin .lss (.t ⟨.d0, .d1, .d5⟩) (.c (.int .i64 (.ofNat 1)))⟩,
  ⟨(some ⟨.d0, .d1, .d7⟩), none, .pick (.t ⟨.d0, .d1, .d4⟩) (.c (.bool true)) (.t ⟨.d0, .d1, .d6⟩)⟩])
 (.cond (.t ⟨.d0, .d1, .d7⟩) (.seq (.ops [⟨(some ⟨.d0, .d0, .d4⟩), none, .mv (.c (.int .u64 (.ofNat 0)))⟩])
 .ret) .skip))
 (.seq (.ops [⟨(some ⟨.d0, .d0, .d5⟩), none, .mv (.c (.int .u64 (.ofNat 18446744073709551615)))⟩])
 (.seq (.seq (.ops [⟨(some ⟨.d0, .d2, .d0⟩), none, .mv (.t ⟨.d0, .d0, .d1⟩)⟩,
  ⟨(some ⟨.d0, .d2, .d1⟩), none, .bin .lss (.t ⟨.d0, .d2, .d0⟩) (.c (.int .i64 (.ofNat 64)))⟩])
 (.cond (.t ⟨.d0, .d2, .d1⟩) (.ops [⟨(some ⟨.d0, .d2, .d2⟩), none, .mv (.t ⟨.d0, .d0, .d1⟩)⟩,
  ⟨(some ⟨.d0, .d2, .d3⟩), none, .bin .shl (.c (.int .u64 (.ofNat 1))) (.t ⟨.d0, .d2, .d2⟩)⟩,
  ⟨(some ⟨.d0, .d2, .d4⟩), none, .bin .sub (.t ⟨.d0, .d2, .d3⟩) (.c (.int .u64 (.ofNat 1)))⟩,
  ⟨(some ⟨.d0, .d0, .d5⟩), none, .mv (.t ⟨.d0, .d2, .d4⟩)⟩]) .skip))
 (.seq (.ops [⟨(some ⟨.d0, .d2, .d5⟩), none, .mv (.t ⟨.d0, .d0, .d5⟩)⟩,
  ⟨(some ⟨.d0, .d2, .d6⟩), none, .mv (.t ⟨.d0, .d0, .d0⟩)⟩,
  ⟨(some ⟨.d0, .d2, .d7⟩), none, .bin .shl (.t ⟨.d0, .d2, .d5⟩) (.t ⟨.d0, .d2, .d6⟩)⟩,
  ⟨(some ⟨.d0, .d0, .d4⟩), none, .mv (.t ⟨.d0, .d2, .d7⟩)⟩])
 .ret)))))
 [.tmp ⟨.d0, .d0, .d4⟩]
def FT : F3 Ent := ⟨⟨(N8.rep .none), ⟨.none, .none, .none, .none, .none, e13, .none, e15⟩, ⟨e16, e17, e18, (.law (lawN g19)), .none, .none, .none, .none⟩, ⟨.none, .none, .none, e27, .none, .none, .none, .none⟩, ⟨.none, .none, .none, .none, .none, .none, .none, e39⟩, ⟨e40, .none, .none, .none, .none, .none, .none, .none⟩, ⟨.none, .none, .none, e51, .none, .none, .none, .none⟩, (N8.rep .none)⟩,
 ⟨(N8.rep .none), ⟨.none, .none, e74, .none, .none, .none, .none, .none⟩, (N8.rep .none), (N8.rep .none), (N8.rep .none), (N8.rep .none), (N8.rep .none), (N8.rep .none)⟩,
 (N8.rep (N8.rep .none)),
 (N8.rep (N8.rep .none)),
 (N8.rep (N8.rep .none)),
 (N8.rep (N8.rep .none)),
 (N8.rep (N8.rep .none)),
 (N8.rep (N8.rep .none))⟩
end
end Go.Dk.Root
namespace Go.Dk.Run
open Go Go.Dk Go.RowKit Go.Proofs
noncomputable section
abbrev i13 : I3 := ⟨.d0, .d1, .d5⟩
section
variable [Keep]
theorem ok13 : EntOk Tryz.prog i13 Root.e13 := ent_code (by kernel_rfl) (by kernel_rfl) rfl
theorem ok15 : EntOk Tryz.prog ⟨.d0, .d1, .d7⟩ Root.e15 := ent_code (by kernel_rfl) (by kernel_rfl) rfl
theorem ok16 : EntOk Tryz.prog ⟨.d0, .d2, .d0⟩ Root.e16 := ent_code (by kernel_rfl) (by kernel_rfl) rfl
theorem ok17 : EntOk Tryz.prog ⟨.d0, .d2, .d1⟩ Root.e17 := ent_code (by kernel_rfl) (by kernel_rfl) rfl
theorem ok18 : EntOk Tryz.prog ⟨.d0, .d2, .d2⟩ Root.e18 := ent_code (by kernel_rfl) (by kernel_rfl) rfl
theorem ok27 : EntOk Tryz.prog ⟨.d0, .d3, .d3⟩ Root.e27 := ent_code (by kernel_rfl) (by kernel_rfl) rfl
theorem ok39 : EntOk Tryz.prog ⟨.d0, .d4, .d7⟩ Root.e39 := ent_code (by kernel_rfl) (by kernel_rfl) rfl
theorem ok40 : EntOk Tryz.prog ⟨.d0, .d5, .d0⟩ Root.e40 := ent_code (by kernel_rfl) (by kernel_rfl) rfl
theorem ok51 : EntOk Tryz.prog ⟨.d0, .d6, .d3⟩ Root.e51 := ent_code (by kernel_rfl) (by kernel_rfl) rfl
theorem ok74 : EntOk Tryz.prog ⟨.d1, .d1, .d2⟩ Root.e74 := ent_code (by kernel_rfl) (by kernel_rfl) rfl
end
def FTe : F3 Ent := set3 i13 Root.e13 (set3 ⟨.d0, .d1, .d7⟩ Root.e15 (set3 ⟨.d0, .d2, .d0⟩ Root.e16 (set3 ⟨.d0, .d2, .d1⟩ Root.e17 (set3 ⟨.d0, .d2, .d2⟩ Root.e18 (set3 ⟨.d0, .d3, .d3⟩ Root.e27 (set3 ⟨.d0, .d4, .d7⟩ Root.e39 (set3 ⟨.d0, .d5, .d0⟩ Root.e40 (set3 ⟨.d0, .d6, .d3⟩ Root.e51 (set3 ⟨.d1, .d1, .d2⟩ Root.e74 (set3 i19 (.law (lawN g19)) (rep3 .none)))))))))))
theorem okFTe [Keep] : ∀ k, EntOk Tryz.prog k (get3 k FTe) := ok_set (ok_set (ok_set (ok_set (ok_set (ok_set (ok_set (ok_set (ok_set (ok_set (ok_set ok_nil law19) ok74) ok51) ok40) ok39) ok27) ok18) ok17) ok16) ok15) ok13
def isP1 (o : Option (AV × H)) : Bool := match o with
  | some (.ptr b 0, σ) => (match σ.blk b with | some (.cells _ _) => true | _ => false)
  | _ => false
theorem run13 : isP1 (callN FTe 1000 i13 [] σE) = true := by kernel_rfl
theorem isP1_inv {o : Option (AV × H)} (h : isP1 o = true) : ∃ b σ t m, o = some (.ptr b 0, σ) ∧ σ.blk b = some (.cells t m) := by
  unfold isP1 at h
  split at h
  · rename_i b σ
    split at h
    · rename_i t m hb
      exact ⟨b, σ, t, m, rfl, hb⟩
    · cases h
  · cases h
def g13 (args : List AV) (_ : H) : Option (Blk × (Id → AV)) := match args with
  | [] => some (.cells .nil 0, fun b => .ptr b 0)
  | _ => none
theorem law13 [Keep] : EntOk Tryz.prog i13 (.law (lawN g13)) := by
  refine ent_new (callsOk (by kernel_rfl)) fun φ σ w args args' x mk hG hH hv hg => ?_
  unfold g13 at hg
  split at hg
  · cases hg
    cases hv
    obtain ⟨b, σ1, t, m, hrun, hb⟩ := isP1_inv run13
    refine (calls_fresh mixed (fun [Keep] => okFTe) hrun hG (w := w) .nil).mono ?_
    rintro e w' ⟨φ', v', rfl, h1, h2, h3⟩
    cases h1 with
    | ptr _ _ cc z hφ =>
      obtain ⟨c1, z1, h4, h5⟩ := @HR.blk (kw w none []) _ _ _ h2 b _ hb
      rw [hφ] at h4; cases h4
      obtain ⟨cur, e1, h6, h7, h8, h9⟩ := h5
      exact ⟨cc, z, _, rfl, kw_new_lt h2 hb hφ, fun φ2 => ⟨cur, e1, h6, h7, Nat.zero_le _, fun k x hk => by cases hk⟩, fun φ2 b2 _ hb2 => .ptr _ _ _ _ hb2, hH.old fun k hk => kw_kept h2 hk, h3, fun k hk _ => kw_kept h2 hk⟩
  · cases hg
end
end Go.Dk.Run
