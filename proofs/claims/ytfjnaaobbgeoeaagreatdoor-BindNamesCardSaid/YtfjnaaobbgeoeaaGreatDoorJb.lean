/-
  The abstract machine: maps, open regions, code, calls, laws.
-/
import Derived.Test.YtfjnaaobbgeoeaaGreatDoorJa
import Derived.Laws.RangeString
import Derived.Tactics
import Derived.Laws.Sem
import Derived.Below
import Derived.Lib.ConvBytes
import Derived.Lib.Bytealg
import Derived.Lib.IndexMore
import Derived.Lib.Case
import Derived.Lib.Join
import Derived.Lib.ItoaNum
import Derived.Lib.ParseIntB
set_option maxRecDepth 100000
set_option linter.all false
namespace Go.Dk
open Go
variable [Keep]
section
variable {P : Program} {m : Id → Prop} {N : Nat} {φ : Emb} {σ : H} {w : World} {τ : Fr} {a : Act} {o : Oper} {base : Id}

theorem s_copy (hT : TR φ N τ a) (hH : HR φ σ w) {t u e : TypeId} {i : TypeInfo} {d s : Operand} {d' s' : AX} (ho : o.op = .call { callee := .builtin .copy, args := #[d, s], argTypes := #[t, u] }) (ht : P.underlying t = some (.slice e)) (hi : P.info? e = some i) (hd : axOf d = some d') (hs : axOf s = some s') :
    SR m φ σ w (hCopy i.size d' s' base τ σ) ((execOp a.eval o).run P w) := by
  have h := evR hT hd
  have h2 := evR hT hs
  have fin : ∀ {v : Value} {w' : World}, (Builtin.copy_ #[t, u] o.type #[a.eval d, a.eval s]).run P w = .ok v w' → (execOp a.eval o).run P w = .ok (.value v) w' := fun hr => by
    simp [execOp, ho, resolve, invoke, builtin, hr]
  refine .no_or fun hne => ?_
  unfold hCopy at hne ⊢
  generalize hsx : ev τ d' = q at h hne
  generalize hsv : a.eval d = v at h fin
  cases hk : lenA (ev τ s') with
  | none => rw [hk] at hne; cases q <;> exact absurd rfl hne
  | some K =>
  rw [hk] at hne
  have hl := lenOf_R (P := P) h2 hk w
  have body : ∀ {b : Id} {off n es : Nat} {cap : Option Nat} {c z C : Nat}, φ b = some (c, z) → v = .slice (some ⟨c, off, none⟩) n C →
      (match firstN i.size (Nat.min K n) (ev τ s') σ with
        | some xs => σ.row OR.no (fun t m => match T.over xs off t with | some t' => .ok (goI (Nat.min K n)) (σ.put b (some (.cells t' m))) | none => .no) b
        | none => OR.no) ≠ .no →
      SR m φ σ w (match firstN i.size (Nat.min K n) (ev τ s') σ with
        | some xs => σ.row OR.no (fun t m => match T.over xs off t with | some t' => .ok (goI (Nat.min K n)) (σ.put b (some (.cells t' m))) | none => .no) b
        | none => OR.no) ((execOp a.eval o).run P w) := by
    intro b off n es cap c z C hb hv hne
    subst hv
    cases hxs : firstN i.size (Nat.min K n) (ev τ s') σ with
    | none => exact trivial
    | some xs =>
      rw [hxs] at hne
      simp only at hne ⊢
      obtain ⟨vs, hv1, hv2, hv3, hv4⟩ := firstN_R (P := P) hH h2 hk (Nat.min_le_left _ _) hxs
      obtain ⟨tt, mm, hblk, he⟩ := H.row_eq rfl hne
      rw [← he]
      cases hov : T.over xs off tt with
      | none => exact trivial
      | some t' =>
        obtain ⟨w', h5, h6, h7⟩ := row_over (P := P) (m := m) hH hblk hb hov hv1 hv2
        refine ⟨φ, _, w', .inl (fin ?_), .int .i64 _, h6, h7⟩
        simp [Builtin.copy_, run_underlying ht, hl, sizeOf, typeInfo, hi, hv4 w rfl, h5, goInt]
  cases h <;> try exact absurd rfl hne
  · rename_i b off n es cap c z hb
    exact body (es := es) (cap := some cap) hb rfl hne
  · rename_i b off n es cap c z hb hn hz
    exact body (es := es) (cap := none) hb rfl hne
  · refine .pure hH (.int .i64 0) (fin ?_)
    have h0 : (Builtin.firstCells i.size 0 (a.eval s)).run P w = .ok #[] w := by
      have hf : firstN i.size 0 (ev τ s') σ = some [] ∨ ∃ x, firstN i.size 0 (ev τ s') σ = x := .inr ⟨_, rfl⟩
      cases hq : a.eval s <;> rw [hq] at hl <;> simp [Builtin.lenOf] at hl
      · simp [Builtin.firstCells]
      · rename_i ad ln cp
        cases ad with
        | none => simp [Builtin.firstCells]
        | some ad => simp [Builtin.firstCells, loadCells, loadCellsFrom]
    simp [Builtin.copy_, run_underlying ht, hl, sizeOf, typeInfo, hi, h0, goInt]
theorem s_mkS (hT : TR φ N τ a) (hH : HR φ σ w) {t e : TypeId} {i : TypeInfo} {z : Value} {z' : List AV} {l c : Operand} {l' c' : AX} (ho : o.op = .makeSlice t l c) (ht : P.underlying t = some (.slice e)) (hi : P.info? e = some i) (hz : i.zero = some z) (hz' : zcOf z = some z')
    (hzo : z.oneCell = true ∨ ∃ cs, z = .agg cs) (h1 : z'.length = i.size) (hl : axOf l = some l') (hc : axOf c = some c') (hm : m σ.n) :
    SR m φ σ w (hMkS i.size i.bytes z' l' c' base τ σ) ((execOp a.eval o).run P w) := by
  have h := evR hT hl
  have h2 := evR hT hc
  refine .no_or fun hne => ?_
  unfold hMkS at hne ⊢
  generalize ev τ l' = q at h hne
  generalize hlv : a.eval l = v at h
  cases h <;> try exact absurd rfl hne
  rename_i kl nl
  cases nl with
  | negSucc nl => exact absurd rfl hne
  | ofNat nl =>
  generalize ev τ c' = q at h2 hne
  generalize hcv : a.eval c = v at h2
  cases h2 <;> try exact absurd rfl hne
  rename_i kc nc
  cases nc with
  | negSucc nc => exact absurd rfl hne
  | ofNat nc =>
  change (if nl ≤ nc ∧ nc * i.bytes ≤ 2 ^ 40 ∧ nc ≤ 2 ^ 40 then σ.new OR.no (fun b σ => .ok (.slice b 0 nl i.size (some nc)) σ) (cellsB (rep8 z' nc)) else .no) ≠ .no at hne
  change SR m φ σ w (if nl ≤ nc ∧ nc * i.bytes ≤ 2 ^ 40 ∧ nc ≤ 2 ^ 40 then σ.new OR.no (fun b σ => .ok (.slice b 0 nl i.size (some nc)) σ) (cellsB (rep8 z' nc)) else .no) _
  by_cases hcond : nl ≤ nc ∧ nc * i.bytes ≤ 2 ^ 40 ∧ nc ≤ 2 ^ 40
  · rw [if_pos hcond] at hne ⊢
    obtain ⟨n', hn', he⟩ := H.new_eq rfl hne
    rw [← he]
    have hrep : ∀ n, rep8 z' n = repL z' n := fun n => by
      induction n with
      | zero => rfl
      | succ n ih => rw [rep8_succ, ih]; rfl
    have hmade := made_R (zcOf_R hz' φ).1 nc
    rw [h1] at hmade
    have hnum : n'.num = σ.n.num + 1 := Id.succ_num hn'
    have hr := run_make w t e i z ht hi hz kl kc (Int.ofNat nl) (Int.ofNat nc) (Int.natCast_nonneg _) (Int.ofNat_le.2 hcond.1) (by
      have : ((i.bytes * nc : Nat) : Int) ≤ 281474976710656 := by rw [Nat.mul_comm]; omega
      simpa using this) (by have := hcond.2.2; show (nc : Int) ≤ _; omega)
    obtain ⟨h3, h4⟩ := new_row (m := m) (σ' := ⟨n', set5 σ.n (some (cellsB (rep8 z' nc))) σ.m⟩) (b := σ.n) hH e (hH.fresh _ (Nat.le_refl _)) hm (by show σ.n.num ≤ n'.num; omega) (by show σ.n.num < n'.num; omega) (fun j => H.blk_new σ n' _ j) (hrep nc ▸ hmade)
      (fun x hx => by rw [hrep] at hx; exact zc_ones hz' hzo x (mem_repL hx)) (w.alloc (.cells (madeCells z.cells (nc * i.size)) e)) (by show w.heap.push _ = _; simp) rfl rfl rfl
    refine ⟨_, _, _, .inl ?_, .sliceK _ 0 nl i.size nc _ _ (upd_same _ _ _), h3, h4⟩
    simp only [execOp, ho, Sem.run_bind, hlv, hcv, hr, Result.andThen_ok, Sem.run_pure]
    rfl
  · rw [if_neg hcond] at hne; exact absurd rfl hne
theorem bytesOf_R {l : List AV} {vs : List Value} {s : List Nat} (h : bytesOf l = some s) (hv : VRs φ l vs) : isBytes s ∧ vs = s.map fun n => .int .u8 (Int.ofNat n) := by
  induction l generalizing vs s with
  | nil => cases h; cases hv; exact ⟨fun x hx => by simp at hx, rfl⟩
  | cons x l ih =>
    cases hv with | cons _ v _ r hx ht =>
    change x.asInt none _ = some s at h
    cases hx <;> try (cases h; done)
    rename_i k n
    cases n with
    | negSucc n => cases h
    | ofNat n =>
      change ite8 (keq k .u8) (ite8 (Nat.ble n 255) (Option.rec (motive := fun _ => Option (List Nat)) none (fun r => some (n :: r)) (bytesOf l)) none) none = some s at h
      rw [keq_eq] at h
      by_cases hk : k = .u8
      · subst hk
        simp only [decide_true] at h
        change ite8 (Nat.ble n 255) (Option.rec (motive := fun _ => Option (List Nat)) none (fun r => some (n :: r)) (bytesOf l)) none = some s at h
        cases hb : Nat.ble n 255 with
        | false => rw [hb] at h; cases h
        | true =>
          rw [hb] at h
          change Option.rec (motive := fun _ => Option (List Nat)) none (fun r => some (n :: r)) (bytesOf l) = some s at h
          cases hq : bytesOf l with
          | none => rw [hq] at h; cases h
          | some q =>
            rw [hq] at h; cases h
            obtain ⟨h1, rfl⟩ := ih hq ht
            have := Nat.le_of_ble_eq_true hb
            exact ⟨fun y hy => by rcases List.mem_cons.1 hy with rfl | hy; omega; exact h1 y hy, rfl⟩
      · rw [decide_eq_false hk] at h; cases h
theorem s_convBS (hT : TR φ N τ a) (hH : HR φ σ w) {s d e : TypeId} {x : Operand} {x' : AX} (ho : o.op = .convert s d x) (hs : P.underlying s = some (.slice e)) (hd : P.underlying d = some .string) (he : P.underlying e = some (.int .u8)) (hx : axOf x = some x') :
    SR m φ σ w (hConvBS x' base τ σ) ((execOp a.eval o).run P w) := by
  have h := evR hT hx
  have conv : ∀ {v : Value}, (Conv.bytesToString (a.eval x)).run P w = .ok v w → (∀ b n c, a.eval x = .slice b n c → True) → (∃ b n c, a.eval x = .slice b n c) → (execOp a.eval o).run P w = .ok (.value v) w := fun {v} hr _ ⟨b, n, c, hv⟩ => by
    rw [hv] at hr
    simp only [execOp, ho, Sem.run_bind, convert, run_underlying hs, run_underlying hd, Result.andThen_ok, hv, run_underlying he, hr, Sem.run_pure]
  refine .no_or fun hne => ?_
  unfold hConvBS at hne ⊢
  generalize ev τ x' = q at h hne
  generalize hv : a.eval x = v at h conv
  have body : ∀ {b : Id} {off n C c z : Nat}, φ b = some (c, z) → v = .slice (some ⟨c, off, none⟩) n C →
      σ.row OR.no (fun c _ => match c.take n off with | some l => (match bytesOf l with | some s => .ok (.str s) σ | none => .no) | none => .no) b ≠ .no →
      SR m φ σ w (σ.row OR.no (fun c _ => match c.take n off with | some l => (match bytesOf l with | some s => .ok (.str s) σ | none => .no) | none => .no) b) ((execOp a.eval o).run P w) := by
    intro b off n C c z hb hve hne
    subst hve
    obtain ⟨tt, mm, hblk, he2⟩ := H.row_eq rfl hne
    rw [← he2]
    cases htk : tt.take n off with
    | none => exact trivial
    | some l =>
      simp only
      cases hbs : bytesOf l with
      | none => exact trivial
      | some s =>
        obtain ⟨vs, h5, h6, _, _, _⟩ := row_take (P := P) hH hblk hb htk
        obtain ⟨h7, rfl⟩ := bytesOf_R hbs h6
        refine .pure hH (.str s h7) (conv ?_ (fun _ _ _ _ => trivial) ⟨_, _, _, rfl⟩)
        have h8 := run_bytesToString (P := P) w ⟨c, off, none⟩ n C (s.map Int.ofNat) (by rw [List.map_map]; exact h5)
        rw [h8]
        congr 2
        have hfold : ∀ (s : List Nat) (r : ByteArray), isBytes s → (s.map Int.ofNat).foldl (fun r n => r.push (UInt8.ofNat n.toNat)) r = ⟨r.data ++ (s.map UInt8.ofNat).toArray⟩ := by
          intro s
          induction s with
          | nil => intro r _; simp
          | cons y s ih =>
            intro r hs
            rw [List.map_cons, List.foldl_cons, ih _ (fun z hz => hs z (by simp [hz]))]
            apply ByteArray.ext
            apply Array.ext'
            simp [ByteArray.push]
        rw [hfold s _ h7]
        apply ByteArray.ext
        apply Array.ext'
        simp [bstr, ByteArray.empty, ByteArray.emptyWithCapacity]
        rfl
  cases h <;> try exact absurd rfl hne
  · exact body ‹_› rfl hne
  · exact body ‹_› rfl hne
  · exact .pure hH (.str [] (fun x hx => by simp at hx)) (conv (by simp [Conv.bytesToString]; rfl) (fun _ _ _ _ => trivial) ⟨_, _, _, rfl⟩)
theorem s_min (hT : TR φ N τ a) (hH : HR φ σ w) {ts : Array TypeId} {x y : Operand} {x' y' : AX} (ho : o.op = .call { callee := .builtin .min, args := #[x, y], argTypes := ts }) (hx : axOf x = some x') (hy : axOf y = some y') :
    SR m φ σ w (hMin x' y' base τ σ) ((execOp a.eval o).run P w) := by
  have h := evR hT hx
  have h2 := evR hT hy
  unfold hMin
  generalize ev τ x' = q at h
  generalize hv : a.eval x = v at h
  cases h <;> try exact trivial
  rename_i k n
  change SR m φ σ w ((ev τ y').asInt .no _) _
  generalize ev τ y' = q at h2
  generalize hv2 : a.eval y = v at h2
  cases h2 <;> try exact trivial
  rename_i k' n'
  refine .pure hH (.int _ _) ?_
  rw [ilt_eq]
  by_cases hlt : n' < n <;> simp [execOp, ho, hv, hv2, resolve, invoke, builtin, Builtin.min_, Builtin.min2, hlt]
theorem s_max (hT : TR φ N τ a) (hH : HR φ σ w) {ts : Array TypeId} {x y : Operand} {x' y' : AX} (ho : o.op = .call { callee := .builtin .max, args := #[x, y], argTypes := ts }) (hx : axOf x = some x') (hy : axOf y = some y') :
    SR m φ σ w (hMax x' y' base τ σ) ((execOp a.eval o).run P w) := by
  have h := evR hT hx
  have h2 := evR hT hy
  unfold hMax
  generalize ev τ x' = q at h
  generalize hv : a.eval x = v at h
  cases h <;> try exact trivial
  rename_i k n
  change SR m φ σ w ((ev τ y').asInt .no _) _
  generalize ev τ y' = q at h2
  generalize hv2 : a.eval y = v at h2
  cases h2 <;> try exact trivial
  rename_i k' n'
  refine .pure hH (.int _ _) ?_
  rw [ilt_eq]
  by_cases hlt : n < n' <;> simp [execOp, ho, hv, hv2, resolve, invoke, builtin, Builtin.max_, Builtin.max2, hlt]
/-! Calls -/
theorem s_callF (hT : TR φ N τ a) {f : FuncId} {fn : Func} {xs : Array Operand} {xs' : List AX} {ts : Array TypeId} (ho : o.op = .call { callee := .value (.func f), args := xs, argTypes := ts }) (hf : P.funcs[f]? = some fn) (h1 : f < 512) (h2 : fn.body.isSome = true) (h3 : fn.name ≠ "runtime.NumGoroutine") (hx : axsOf xs.toList = some xs') :
    SR m φ σ w (hCallF (I3.of f) xs' base τ σ) ((execOp a.eval o).run P w) := by
  refine ⟨xs.toList.map a.eval, ?_, evsR hT hx⟩
  rw [I3.of_num h1]
  have e : (xs.toList.map a.eval).toArray = xs.map a.eval := by apply Array.ext'; simp
  rw [e]
  cases hb : fn.body with
  | none => rw [hb] at h2; cases h2
  | some b => simp [execOp, ho, resolve, invoke, Act.eval, Deferred.ofValue, callFunc, hf, h3, hb]
/-- Functions that may be called by value: they have bodies. -/
def CallsOk (P : Program) (f : FuncId) : Prop := ∃ fn, P.funcs[f]? = some fn ∧ fn.body.isSome = true ∧ fn.name ≠ "runtime.NumGoroutine"
theorem s_callV (hT : TR φ N τ a) {x : Operand} {x' : AX} {xs : Array Operand} {xs' : List AX} {ts : Array TypeId} (ho : o.op = .call { callee := .value x, args := xs, argTypes := ts }) (hx : axOf x = some x') (hxs : axsOf xs.toList = some xs')
    (hok : ∀ f first cap, ev τ x' = .func f first cap → f < 512 → CallsOk P f) :
    SR m φ σ w (hCallV x' xs' base τ σ) ((execOp a.eval o).run P w) := by
  have h := evR hT hx
  have h2 := evsR hT hxs
  unfold hCallV
  generalize ev τ x' = q at h hok
  generalize hv : a.eval x = v at h
  cases h <;> try exact trivial
  rename_i f first cap first' cap' h3 h4
  change SR m φ σ w (if f < 512 then .call (I3.of f) (app8 (app8 first (evs τ xs')) cap) else .no) _
  by_cases hf : f < 512
  · rw [if_pos hf]
    obtain ⟨fn, h5, h6, h7⟩ := hok f first cap rfl hf
    refine ⟨first' ++ xs.toList.map a.eval ++ cap', ?_, by rw [app8_eq, app8_eq]; exact (h3.append h2).append h4⟩
    rw [I3.of_num hf]
    cases hb : fn.body with
    | none => rw [hb] at h6; cases h6
    | some b =>
      have e : (first' ++ xs.toList.map a.eval ++ cap').toArray = first'.toArray ++ xs.map a.eval ++ cap'.toArray := by apply Array.ext'; simp
      rw [e]
      simp [execOp, ho, resolve, invoke, hv, Deferred.ofValue, callFunc, h5, h7, hb]
  · rw [if_neg hf]; exact trivial
/-! Walks over strings -/
theorem s_rangeS (hT : TR φ N τ a) (hH : HR φ σ w) {t : TypeId} {x : Operand} {x' : AX} (ho : o.op = .range t x) (hu : P.underlying t = some .string) (hx : axOf x = some x') (hm : m σ.n) :
    SR m φ σ w (hRangeS x' base τ σ) ((execOp a.eval o).run P w) := by
  have h := evR hT hx
  refine .no_or fun hne => ?_
  unfold hRangeS at hne ⊢
  generalize ev τ x' = q at h hne
  generalize hv : a.eval x = v at h
  cases h <;> try exact absurd rfl hne
  rename_i l hl
  change σ.new OR.no (fun b σ => .ok (.ptr b 0) σ) (.iter l 0) ≠ .no at hne
  change SR m φ σ w (σ.new OR.no (fun b σ => .ok (.ptr b 0) σ) (.iter l 0)) _
  obtain ⟨n', hn', he⟩ := H.new_eq rfl hne
  rw [← he]
  have hnum : n'.num = σ.n.num + 1 := Id.succ_num hn'
  obtain ⟨h1, h2⟩ := HR.add (m := m) (hkp := fun h => absurd h (Nat.lt_irrefl _)) (σ' := ⟨n', set5 σ.n (some (.iter l 0)) σ.m⟩) (w' := w.alloc (.stringIter (bstr l) 0)) hH σ.n (.iter l 0) w.heap.size 0 (hH.fresh _ (Nat.le_refl _)) hm (by show σ.n.num ≤ n'.num; omega) (by show σ.n.num < n'.num; omega) (fun j => H.blk_new σ n' _ j)
    (fun i y z hi hc => by
      obtain ⟨c', z', h1, h2⟩ := hH.blk i y hi
      rw [hc] at h1; cases h1
      have := h2.lt
      omega)
    (fun k hk _ => heap_alloc_old w _ k hk) (by show _ ≤ (w.heap.push _).size; simp) rfl rfl rfl ⟨heap_alloc_new w _, hl⟩
  refine ⟨_, _, _, .inl ?_, .ptr _ 0 _ _ (upd_same _ _ _), h1, h2 (Nat.le_refl _)⟩
  simp [execOp, ho, hv, Instr.range, run_underlying hu]
end
end Go.Dk
namespace Go.Dk
open Go
variable [Keep]
section
variable {P : Program} {m : Id → Prop} {N : Nat} {φ : Emb} {σ : H} {w : World} {τ : Fr} {a : Act} {o : Oper} {base : Id}

theorem s_nextS (hT : TR φ N τ a) (hH : HR φ σ w) {x : Operand} {x' : AX} (ho : o.op = .next x true) (hx : axOf x = some x') :
    SR m φ σ w (hNextS x' base τ σ) ((execOp a.eval o).run P w) := by
  have h := evR hT hx
  refine .no_or fun hne => ?_
  unfold hNextS at hne ⊢
  generalize ev τ x' = q at h hne
  generalize hv : a.eval x = v at h
  cases h <;> try exact absurd rfl hne
  rename_i b off c z hb
  cases off with
  | succ off => exact absurd rfl hne
  | zero =>
  change (match σ.blk b with
    | some (.iter l p) => (match nth8 l p with
      | some c => if c < 128 then OR.ok (.tup [.bool true, goI p, .int .i32 (.ofNat c)]) (σ.put b (some (.iter l (p + 1)))) else OR.no
      | none => OR.ok (.tup [.bool false]) σ)
    | _ => OR.no) ≠ .no at hne
  change SR m φ σ w (match σ.blk b with
    | some (.iter l p) => (match nth8 l p with
      | some c => if c < 128 then OR.ok (.tup [.bool true, goI p, .int .i32 (.ofNat c)]) (σ.put b (some (.iter l (p + 1)))) else OR.no
      | none => OR.ok (.tup [.bool false]) σ)
    | _ => OR.no) _
  split at hne
  · rename_i l p hblk
    obtain ⟨c', z', h1, h2⟩ := hH.blk b _ hblk
    rw [hb] at h1; cases h1
    obtain ⟨h3, h4⟩ := h2
    have hg : (getObj c).run P w = .ok (.stringIter (bstr l) p) w := by simp [getObj, Sem.run, h3]
    simp only [nth8_eq] at hne ⊢
    cases hk : l[p]? with
    | none =>
      have hp : ¬ p < (bstr l).size := by rw [bstr_size]; simpa using hk
      refine .pure hH (.tup _ [.bool false] (.cons _ _ _ _ (.bool false) .nil)) ?_
      simp [execOp, ho, hv, Instr.next, hg, hp]
    | some d =>
      rw [hk] at hne
      simp only at hne ⊢
      by_cases hd : d < 128
      · rw [if_pos hd]
        have hp : p < (bstr l).size := by rw [bstr_size]; exact (List.getElem?_eq_some_iff.1 hk).1
        have hgd : (bstr l)[p]'hp = UInt8.ofNat d := by
          have := bstr_get l p
          rw [hk, getElem?_pos (bstr l) p hp] at this
          simpa using this
        have hdn : ((bstr l)[p]'hp).toNat = d := by rw [hgd]; simp; omega
        have hdec := decode_ascii (bstr l) p hp (by omega)
        obtain ⟨h5, h6⟩ := HR.put (m := m) (x' := .iter l (p + 1)) (w' := { w with heap := w.heap.setIfInBounds c (.stringIter (bstr l) (p + 1)) }) hH hblk hb (fun k hk => by show (w.heap.setIfInBounds _ _)[k]? = _; rw [Array.getElem?_setIfInBounds_ne (Ne.symm hk)]) (by simp) rfl rfl rfl
          ⟨by show (w.heap.setIfInBounds _ _)[c]? = _; have := (Array.getElem?_eq_some_iff.1 h3).1; rw [Array.getElem?_setIfInBounds_self_of_lt this], h4⟩
        refine ⟨φ, .tuple #[.bool true, goInt p, .int .i32 d], _, .inl ?_, .tup _ [.bool true, goInt p, .int .i32 d] (.cons _ _ _ _ (.bool _) (.cons _ _ _ _ (.int _ _) (.cons _ _ _ _ (.int _ _) .nil))), h5, h6⟩
        have hs : ∀ o', (setObj c o').run P w = .ok () { w with heap := w.heap.setIfInBounds c o' } := fun o' => by simp [setObj, Sem.run, h3]
        simp [execOp, ho, hv, Instr.next, hg, hp, hdec, hs, hdn]
      · rw [if_neg hd] at hne; exact absurd rfl hne
  · exact absurd rfl hne

/-! Keys -/
theorem seq8_comm (l r : List Nat) : seq8 l r = seq8 r l := by
  rw [seq8_eq, seq8_eq]
  by_cases h : l = r
  · rw [h]
  · rw [decide_eq_false h, decide_eq_false (Ne.symm h)]
theorem flat1_comm (p : PK) (x y : AV) : flat1 p x y = flat1 p y x := by
  cases p
  · show x.asInt none (fun k a => y.asInt none fun k' b => ite8 (keq k k') (some (ieq a b)) none) = y.asInt none (fun k a => x.asInt none fun k' b => ite8 (keq k k') (some (ieq a b)) none)
    cases x <;> cases y <;> try rfl
    rename_i k a k' b
    show ite8 (keq k k') (some (ieq a b)) none = ite8 (keq k' k) (some (ieq b a)) none
    rw [keq_eq, keq_eq, ieq_eq, ieq_eq]
    have e1 : decide (k = k') = decide (k' = k) := by
      by_cases h : k = k'
      · rw [h]
      · rw [decide_eq_false h, decide_eq_false (Ne.symm h)]
    have e2 : (a == b) = (b == a) := by
      by_cases h : a = b
      · rw [h]
      · rw [beq_false_of_ne h, beq_false_of_ne (Ne.symm h)]
    rw [e1, e2]
  · show x.asStr none (fun a => y.asStr none fun b => some (seq8 a b)) = y.asStr none (fun a => x.asStr none fun b => some (seq8 a b))
    cases x <;> cases y <;> try rfl
    exact congrArg some (seq8_comm _ _)
  · show x.asBool none (fun a => y.asBool none fun b => some (ite8 a b (not8 b))) = y.asBool none (fun a => x.asBool none fun b => some (ite8 a b (not8 b)))
    cases x <;> cases y <;> try rfl
    rename_i p q
    cases p <;> cases q <;> rfl
theorem flat1_true {p : PK} {x y : AV} (h : flat1 p x y = some true) : x = y := by
  cases p
  · change x.asInt none (fun k a => y.asInt none fun k' b => ite8 (keq k k') (some (ieq a b)) none) = some true at h
    cases x <;> cases y <;> try (cases h; done)
    rename_i k a k' b
    change ite8 (keq k k') (some (ieq a b)) none = some true at h
    rw [keq_eq, ieq_eq] at h
    by_cases hk : k = k'
    · subst hk
      simp at h
      rw [h]
    · rw [decide_eq_false hk] at h; cases h
  · change x.asStr none (fun a => y.asStr none fun b => some (seq8 a b)) = some true at h
    cases x <;> cases y <;> try (cases h; done)
    rename_i a b
    change some (seq8 a b) = some true at h
    rw [seq8_eq] at h
    simp at h
    rw [h]
  · change x.asBool none (fun a => y.asBool none fun b => some (ite8 a b (not8 b))) = some true at h
    cases x <;> cases y <;> try (cases h; done)
    rename_i a b
    cases a <;> cases b <;> first | rfl | (cases h)
theorem flats_comm : ∀ (ps : List PK) (l r : List AV), flats ps l r = flats ps r l := by
  intro ps
  induction ps with
  | nil => intro l r; cases l <;> cases r <;> rfl
  | cons p ps ih =>
    intro l r
    cases l with
    | nil => cases r <;> rfl
    | cons x l =>
      cases r with
      | nil => rfl
      | cons y r =>
        show Option.rec (motive := fun _ => Option Bool) none (fun e => ite8 e (flats ps l r) (ite8 (Nat.beq (len8 l) (len8 r)) (some false) none)) (flat1 p x y) = Option.rec (motive := fun _ => Option Bool) none (fun e => ite8 e (flats ps r l) (ite8 (Nat.beq (len8 r) (len8 l)) (some false) none)) (flat1 p y x)
        have e : Nat.beq (len8 l) (len8 r) = Nat.beq (len8 r) (len8 l) := by
          rw [Bool.eq_iff_iff]
          constructor <;> (intro h; rw [Nat.eq_of_beq_eq_true h]; simp)
        rw [flat1_comm p x y, ih l r, e]
theorem flats_true : ∀ {ps : List PK} {l r : List AV}, flats ps l r = some true → l = r := by
  intro ps
  induction ps with
  | nil => intro l r h; obtain ⟨rfl, rfl, _⟩ := flats_nil h; rfl
  | cons p ps ih =>
    intro l r h
    obtain ⟨x, l', y, r', e, rfl, rfl, he, h1, h2⟩ := flats_cons h
    cases e with
    | false => cases h2 rfl
    | true => rw [flat1_true he, ih (h1 rfl)]
theorem keyEq_comm (kt : KT) (x y : AV) : keyEq kt x y = keyEq kt y x := by
  cases kt with
  | prim p => exact flat1_comm p x y
  | flat ps =>
    show eqFlat ps x y = eqFlat ps y x
    cases x <;> cases y <;> try rfl
    exact flats_comm ps _ _
theorem keyEq_true {kt : KT} {x y : AV} (h : keyEq kt x y = some true) : x = y := by
  cases kt with
  | prim p => exact flat1_true h
  | flat ps =>
    change eqFlat ps x y = some true at h
    unfold eqFlat at h
    split at h
    · rw [flats_true h]
    · cases h
/-- Two keys, held against each other. -/
theorem keyEq_R {t : TypeId} {kt : KT} (hk : keyK P t = some kt) {x y : AV} {x' y' : Value} {e : Bool} (h : keyEq kt x y = some e) (hx : VR φ x x') (hy : VR φ y y') : (Op.equal t x' y').run P w = .ok e w := by
  unfold keyK at hk
  cases hp : primK P t with
  | some p => rw [hp] at hk; cases hk; exact run_equal_prim hp h hx hy 9999
  | none =>
    rw [hp] at hk
    cases hf : flatT P t with
    | none => rw [hf] at hk; cases hk
    | some ps =>
      rw [hf] at hk; cases hk
      change eqFlat ps x y = some e at h
      unfold eqFlat at h
      split at h
      · obtain ⟨l1, rfl, h1, _⟩ := hx.agg_inv
        obtain ⟨l2, rfl, h2, _⟩ := hy.agg_inv
        exact eqv_flat_R hf h (by simpa using h1) (by simpa using h2) 9998
      · cases h
/-- A plain value by itself. -/
theorem prim_ground {t : TypeId} {p : PK} (ht : primK P t = some p) {x : AV} {x' : Value} (h : flat1 p x x = some true) (hx : VR φ x x') : (∀ e n, (Instr.checkKey e (n + 1) t x').run P w = .ok () w) ∧ (∀ n, Instr.sameBits n x' x' = true) ∧ (∀ y', VR φ x y' → y' = x') := by
  obtain ⟨d, hu, _⟩ := prim_notAgg (w := w) ht
  have hd : d = .bool ∨ (∃ k, d = .int k) ∨ d = .string := by
    unfold primK at ht
    rw [hu] at ht
    cases d <;> simp at ht <;> simp
  have hc : ∀ e n, (Instr.checkKey e (n + 1) t x').run P w = .ok () w := fun e n => by
    unfold Instr.checkKey
    rcases hd with rfl | ⟨k, rfl⟩ | rfl <;> simp only [Sem.run_bind, run_underlying hu, Result.andThen_ok, Sem.run_pure]
  cases p
  · change x.asInt none _ = some true at h
    cases hx <;> try (cases h; done)
    exact ⟨hc, fun n => by cases n <;> simp [Instr.sameBits], fun y' hy => by cases hy; rfl⟩
  · change x.asStr none _ = some true at h
    cases hx <;> try (cases h; done)
    exact ⟨hc, fun n => by cases n <;> simp [Instr.sameBits, beq_toListBytes], fun y' hy => by cases hy; rfl⟩
  · change x.asBool none _ = some true at h
    cases hx <;> try (cases h; done)
    exact ⟨hc, fun n => by cases n <;> simp [Instr.sameBits], fun y' hy => by cases hy; rfl⟩
theorem flats_ground {ps : List PK} : ∀ {l : List AV} {l' : List Value}, flats ps l l = some true → VRs φ l l' → (∀ n, (l'.zip l').all (fun p => Instr.sameBits n p.1 p.2) = true) ∧ (∀ r', VRs φ l r' → r' = l') := by
  induction ps with
  | nil =>
    intro l l' h hv
    obtain ⟨rfl, _, _⟩ := flats_nil h
    cases hv
    exact ⟨fun n => rfl, fun r' hr => by cases hr; rfl⟩
  | cons p ps ih =>
    intro l l' h hv
    obtain ⟨x, l1, y, r1, e, rfl, he0, he, h1, h2⟩ := flats_cons h
    cases he0
    cases e with
    | false => cases h2 rfl
    | true =>
    cases hv with | cons _ v _ r hx ht =>
    obtain ⟨h3, h4⟩ := ih (h1 rfl) ht
    have g : (∀ n, Instr.sameBits n v v = true) ∧ (∀ y', VR φ x y' → y' = v) := by
      cases p
      · change x.asInt none _ = some true at he
        cases hx <;> try (cases he; done)
        exact ⟨fun n => by cases n <;> simp [Instr.sameBits], fun y' hy => by cases hy; rfl⟩
      · change x.asStr none _ = some true at he
        cases hx <;> try (cases he; done)
        exact ⟨fun n => by cases n <;> simp [Instr.sameBits, beq_toListBytes], fun y' hy => by cases hy; rfl⟩
      · change x.asBool none _ = some true at he
        cases hx <;> try (cases he; done)
        exact ⟨fun n => by cases n <;> simp [Instr.sameBits], fun y' hy => by cases hy; rfl⟩
    refine ⟨fun n => by simp [g.1 n]; simpa using h3 n, fun r' hr => ?_⟩
    cases hr with | cons _ v' _ r2 hx' ht' => rw [g.2 v' hx', h4 r2 ht']
theorem checkFields (em : Bool) (n : Nat) {xs : Array Value} : ∀ {fs : List Field} {ps : List PK} {l : List AV} (k : Nat), flatS P fs k = some ps → flats ps l l = some true → VRs φ l (xs.toList.drop k) →
    ((forIn fs PUnit.unit fun f (_ : PUnit) => if f.name ≠ "_" then (do Instr.checkKey em (n + 1) f.type (← part f.type xs f.offset); pure (ForInStep.yield PUnit.unit)) else pure (ForInStep.yield PUnit.unit)) : Sem PUnit).run P w = .ok PUnit.unit w := by
  intro fs
  induction fs with
  | nil => intro ps l k _ _ _; simp
  | cons f fs ih =>
    intro ps l k hf h hx
    unfold flatS at hf
    split at hf
    · rename_i q qs hk hq
      by_cases hc : (f.name != "_" && f.offset == k && size1 P f.type) = true
      · rw [if_pos hc] at hf
        cases hf
        simp only [Bool.and_eq_true, bne_iff_ne, ne_eq, beq_iff_eq] at hc
        obtain ⟨⟨hname, hoff⟩, hsz⟩ := hc
        obtain ⟨x, l', y, r', e, rfl, he0, he, h1, h2⟩ := flats_cons h
        cases he0
        cases e with
        | false => cases h2 rfl
        | true =>
        cases hxd : xs.toList.drop k with
        | nil => rw [hxd] at hx; cases hx
        | cons v xs' =>
        rw [hxd] at hx
        cases hx with | cons _ _ _ _ hxv hxt =>
        have g1 : xs[f.offset]? = some v := by
          rw [hoff]
          have := congrArg List.head? hxd
          rw [List.head?_drop] at this
          simpa using this
        have n1 : xs.toList.drop (k + 1) = xs' := by rw [← List.drop_drop, hxd]; rfl
        have g2 := (prim_ground (P := P) (w := w) hk he hxv).1 em n
        rw [List.forIn_cons]
        simp only [hname, ne_eq, not_false_eq_true, if_true, Sem.run_bind, run_part_prim hk g1, Result.andThen_ok, g2, Sem.run_pure]
        exact ih (k + 1) hq (h1 rfl) (n1 ▸ hxt)
      · rw [if_neg hc] at hf; cases hf
    · cases hf
theorem checkItems (em : Bool) (n : Nat) {el : TypeId} {k : PK} {ti : TypeInfo} (hk : primK P el = some k) (hi : P.info? el = some ti) (hc : P.cellsOf el = 1) {xs : Array Value} : ∀ (q i : Nat) {l : List AV}, flats (List.replicate q k) l l = some true → VRs φ l (xs.toList.drop i) →
    ((forIn (List.range' i q) PUnit.unit fun i (_ : PUnit) => do
      let c ← sizeOf el
      let a ← part el xs (i * c)
      Instr.checkKey em (n + 1) el a
      pure (ForInStep.yield PUnit.unit)) : Sem PUnit).run P w = .ok PUnit.unit w := by
  intro q
  induction q with
  | zero => intro i l _ _; simp
  | succ q ih =>
    intro i l h hx
    obtain ⟨x, l', y, r', e, rfl, he0, he, h1, h2⟩ := flats_cons h
    cases he0
    cases e with
    | false => cases h2 rfl
    | true =>
    cases hxd : xs.toList.drop i with
    | nil => rw [hxd] at hx; cases hx
    | cons v xs' =>
    rw [hxd] at hx
    cases hx with | cons _ _ _ _ hxv hxt =>
    have g1 : xs[i * 1]? = some v := by
      have := congrArg List.head? hxd
      rw [List.head?_drop] at this
      simpa using this
    have n1 : xs.toList.drop (i + 1) = xs' := by rw [← List.drop_drop, hxd]; rfl
    have g2 := (prim_ground (P := P) (w := w) hk he hxv).1 em n
    rw [List.range'_succ, List.forIn_cons]
    simp only [Sem.run_bind, run_sizeOf w hi, hc, run_part_prim hk g1, Result.andThen_ok, g2, Sem.run_pure]
    exact ih (i + 1) (h1 rfl) (n1 ▸ hxt)
/-- A key by itself. -/
theorem key_ground {t : TypeId} {kt : KT} (hk : keyK P t = some kt) {x : AV} {x' : Value} (h : keyEq kt x x = some true) (hx : VR φ x x') : (∀ e n, (Instr.checkKey e (n + 2) t x').run P w = .ok () w) ∧ (∀ n, Instr.sameBits (n + 2) x' x' = true) ∧ (∀ y', VR φ x y' → y' = x') := by
  unfold keyK at hk
  cases hp : primK P t with
  | some p =>
    rw [hp] at hk; cases hk
    obtain ⟨h1, h2, h3⟩ := prim_ground (w := w) hp h hx
    exact ⟨fun e n => h1 e (n + 1), fun n => h2 (n + 2), h3⟩
  | none =>
    rw [hp] at hk
    cases hf : flatT P t with
    | none => rw [hf] at hk; cases hk
    | some ps =>
      rw [hf] at hk; cases hk
      change eqFlat ps x x = some true at h
      cases hx <;> try (cases h; done)
      rename_i l l' hl h1
      change flats ps l l = some true at h
      obtain ⟨h2, h3⟩ := flats_ground h hl
      refine ⟨fun e n => ?_, fun n => ?_, fun y' hy => ?_⟩
      · unfold flatT at hf
        split at hf
        · rename_i fs hu
          by_cases hs : P.stoodInHeld t = true
          · rw [if_pos hs] at hf; cases hf
          · rw [if_neg hs] at hf
            have := checkFields (P := P) (w := w) e n (xs := l'.toArray) 0 hf h (by simpa using hl)
            unfold Instr.checkKey
            simp only [Sem.run_bind, run_underlying hu, Result.andThen_ok]
            rw [← Array.forIn_toList, this]
            rfl
        · rename_i q el hu
          split at hf
          · rename_i k hk
            by_cases hsz : size1 P el = true
            · rw [if_pos hsz] at hf
              cases hf
              unfold size1 at hsz
              cases hi : P.info? el with
              | none => rw [hi] at hsz; cases hsz
              | some i =>
              rw [hi] at hsz
              have hi1 : P.cellsOf el = 1 := by simpa [Program.cellsOf, hi] using hsz
              unfold Instr.checkKey
              simp only [Sem.run_bind, run_underlying hu, Result.andThen_ok]
              simp only [Std.Legacy.Range.forIn_eq_forIn_range', Std.Legacy.Range.size, Nat.sub_zero, Nat.add_one_sub_one, Nat.div_one]
              rw [checkItems (P := P) (w := w) e n hk hi hi1 (xs := l'.toArray) q 0 h (by simpa using hl)]
              rfl
            · rw [if_neg hsz] at hf; cases hf
          · cases hf
        · cases hf
      · simp only [Instr.sameBits]
        simpa using h2 (n + 1)
      · obtain ⟨r', rfl, hr, _⟩ := hy.agg_inv
        rw [h3 r' hr]
/-- What is found in a map's entries. -/
def Found (φ : Emb) (kt : KT) (k : AV) (l : List (AV × AV)) (i : Nat) (r : Option AV) (res : Option (Nat × Value)) : Prop :=
  match r with
  | none => res = none
  | some v => ∃ (j : Nat) (v' : Value) (p : AV × AV), res = some (i + j, v') ∧ l[j]? = some p ∧ p.2 = v ∧ VR φ v v' ∧ keyEq kt k p.1 = some true
theorem keyAt_cons (kt : KT) (k : AV) (p : AV × AV) (l : List (AV × AV)) : keyAt kt k (p :: l) = match keyEq kt k p.1 with | some true => some (some p.2) | some false => keyAt kt k l | none => none := rfl
theorem keyPut_cons (kt : KT) (k v : AV) (p : AV × AV) (l : List (AV × AV)) : keyPut kt k v (p :: l) = match keyEq kt k p.1 with | some true => (k, v) :: l | _ => p :: keyPut kt k v l := rfl
theorem findAsking_R {t : TypeId} {kt : KT} (hk : keyK P t = some kt) {k : AV} {k' : Value} (hkv : VR φ k k') : ∀ {es : List MapEntry} {l : List (AV × AV)} {i : Nat} {r : Option AV}, VRs φ (l.map (·.1)) (es.map (·.key)) → VRs φ (l.map (·.2)) (es.map (·.val)) → keyAt kt k l = some r →
    ∃ res, (Instr.findAsking t k' es i).run P w = .ok res w ∧ Found φ kt k l i r res := by
  intro es
  induction es with
  | nil =>
    intro l i r h1 _ h
    have hl : l = [] := by have := h1.length; simpa using this.symm
    subst hl
    cases h
    exact ⟨none, rfl, rfl⟩
  | cons e es ih =>
    intro l i r h1 h2 h
    cases l with
    | nil => have := h1.length; simp at this
    | cons p l =>
      simp only [List.map_cons] at h1 h2
      cases h1 with | cons _ _ _ _ g1 g2 =>
      cases h2 with | cons _ _ _ _ g3 g4 =>
      rw [keyAt_cons] at h
      cases he : keyEq kt k p.1 with
      | none => rw [he] at h; cases h
      | some b =>
        rw [he] at h
        have heq := keyEq_R (w := w) hk he hkv g1
        cases b with
        | true =>
          cases h
          exact ⟨some (i, e.val), by simp [Instr.findAsking, heq], 0, e.val, p, rfl, rfl, rfl, g3, he⟩
        | false =>
          obtain ⟨res, h5, h6⟩ := ih (i := i + 1) g2 g4 h
          refine ⟨res, by simp [Instr.findAsking, heq, h5], ?_⟩
          cases r with
          | none => exact h6
          | some v =>
            obtain ⟨j, v', q, h7, h8, h9, h10⟩ := h6
            exact ⟨j + 1, v', q, by rw [h7]; congr 2; omega, by simpa using h8, h9, h10⟩
theorem findNow_R {t : TypeId} {d : TypeDesc} {p : PK} (hu : P.underlying t = some d) (hk : primK P t = some p) {k : AV} {k' : Value} (hkv : VR φ k k') : ∀ {es : List MapEntry} {l : List (AV × AV)} {i : Nat} {r : Option AV}, VRs φ (l.map (·.1)) (es.map (·.key)) → VRs φ (l.map (·.2)) (es.map (·.val)) → keyAt (.prim p) k l = some r →
    ∃ res, Instr.findNow d k' es i = some res ∧ Found φ (.prim p) k l i r res := by
  intro es
  induction es with
  | nil =>
    intro l i r h1 _ h
    have hl : l = [] := by have := h1.length; simpa using this.symm
    subst hl
    cases h
    exact ⟨none, rfl, rfl⟩
  | cons e es ih =>
    intro l i r h1 h2 h
    cases l with
    | nil => have := h1.length; simp at this
    | cons q l =>
      simp only [List.map_cons] at h1 h2
      cases h1 with | cons _ _ _ _ g1 g2 =>
      cases h2 with | cons _ _ _ _ g3 g4 =>
      rw [keyAt_cons] at h
      cases he : keyEq (.prim p) k q.1 with
      | none => rw [he] at h; cases h
      | some b =>
        rw [he] at h
        have hsn : Instr.sameNow d k' e.key = some b := by
          change flat1 p k q.1 = some b at he
          unfold primK at hk
          rw [hu] at hk
          cases d <;> simp at hk <;> subst hk
          · change k.asBool none _ = some b at he
            cases hkv <;> try (cases he; done)
            change q.1.asBool none _ = some b at he
            generalize q.1 = q1 at he g1
            generalize e.key = ek at g1
            cases g1 <;> try (cases he; done)
            rename_i x y
            cases x <;> cases y <;> cases he <;> rfl
          · change k.asInt none _ = some b at he
            cases hkv <;> try (cases he; done)
            change q.1.asInt none _ = some b at he
            generalize q.1 = q1 at he g1
            generalize e.key = ek at g1
            cases g1 <;> try (cases he; done)
            rename_i k1 x k2 y
            change ite8 (keq k1 k2) (some (ieq x y)) none = some b at he
            rw [keq_eq, ieq_eq] at he
            by_cases hkk : k1 = k2
            · subst hkk
              simp at he
              simp [Instr.sameNow, he]
            · rw [decide_eq_false hkk] at he; cases he
          · change k.asStr none _ = some b at he
            cases hkv <;> try (cases he; done)
            change q.1.asStr none _ = some b at he
            generalize q.1 = q1 at he g1
            generalize e.key = ek at g1
            cases g1 <;> try (cases he; done)
            rename_i x hx y hy
            change some (seq8 x y) = some b at he
            cases he
            simp only [Instr.sameNow]
            congr 1
            rw [beq_toListBytes, byteArray_toList, byteArray_toList, bstr_list, bstr_list, seq8_eq, Bool.eq_iff_iff]
            simp only [beq_iff_eq, decide_eq_true_eq]
            exact ⟨map_ofNat_inj hx hy, fun h => by rw [h]⟩
        cases b with
        | true =>
          cases h
          exact ⟨some (i, e.val), by simp [Instr.findNow, hsn], 0, e.val, q, rfl, rfl, rfl, g3, he⟩
        | false =>
          obtain ⟨res, h5, h6⟩ := ih (i := i + 1) g2 g4 h
          refine ⟨res, by simp [Instr.findNow, hsn, h5], ?_⟩
          cases r with
          | none => exact h6
          | some v =>
            obtain ⟨j, v', q', h7, h8, h9, h10⟩ := h6
            exact ⟨j + 1, v', q', by rw [h7]; congr 2; omega, by simpa using h8, h9, h10⟩
theorem findKey_R {t : TypeId} {kt : KT} (hk : keyK P t = some kt) {k : AV} {k' : Value} (hkv : VR φ k k') {es : List MapEntry} {l : List (AV × AV)} {r : Option AV} (h1 : VRs φ (l.map (·.1)) (es.map (·.key))) (h2 : VRs φ (l.map (·.2)) (es.map (·.val))) (h : keyAt kt k l = some r) :
    ∃ res, (Instr.findKey t k' es).run P w = .ok res w ∧ Found φ kt k l 0 r res := by
  cases hp : primK P t with
  | some p =>
    have hk2 := hk
    unfold keyK at hk2
    rw [hp] at hk2; cases hk2
    obtain ⟨d, hu, _⟩ := prim_notAgg (w := w) hp
    obtain ⟨res, h3, h4⟩ := findNow_R hu hp hkv (i := 0) h1 h2 h
    exact ⟨res, by simp [Instr.findKey, run_underlying hu, h3], h4⟩
  | none =>
    have hu : ∃ d, P.underlying t = some d ∧ ∀ e es i, Instr.findNow d k' (e :: es) i = none := by
      unfold keyK at hk
      rw [hp] at hk
      have hf : (flatT P t).isSome = true := by
        cases hq : flatT P t with
        | none => rw [hq] at hk; cases hk
        | some ps => rfl
      unfold flatT at hf
      split at hf
      · rename_i fs hu; exact ⟨_, hu, fun e es i => by cases k' <;> rfl⟩
      · rename_i n e hu; exact ⟨_, hu, fun e es i => by cases k' <;> rfl⟩
      · cases hf
    obtain ⟨d, hu, hn⟩ := hu
    cases es with
    | nil =>
      have hl : l = [] := by have := h1.length; simpa using this.symm
      subst hl
      cases h
      exact ⟨none, by simp [Instr.findKey, run_underlying hu, Instr.findNow], rfl⟩
    | cons e es =>
      obtain ⟨res, h3, h4⟩ := findAsking_R (w := w) hk hkv (i := 0) h1 h2 h
      exact ⟨res, by simp [Instr.findKey, run_underlying hu, hn, h3], h4⟩
/-! The order of a map's entries is not told -/
def Dist (kt : KT) (l : List (AV × AV)) : Prop := l.Pairwise (fun p q => keyEq kt p.1 q.1 = some false)
theorem Dist.of_mem {kt : KT} : ∀ {l : List (AV × AV)}, Dist kt l → ∀ p ∈ l, ∀ q ∈ l, p = q ∨ keyEq kt p.1 q.1 = some false := by
  intro l
  induction l with
  | nil => intro _ p hp; simp at hp
  | cons x l ih =>
    intro h p hp q hq
    have h1 := (List.pairwise_cons.1 h).1
    have h2 := (List.pairwise_cons.1 h).2
    rcases List.mem_cons.1 hp with e1 | hp' <;> rcases List.mem_cons.1 hq with e2 | hq'
    · exact .inl (e1.trans e2.symm)
    · rw [e1]; exact .inr (h1 q hq')
    · rw [e2]; exact .inr (by rw [keyEq_comm]; exact h1 p hp')
    · exact ih h2 p hp' q hq'
theorem keyAt_some {kt : KT} {k v : AV} : ∀ {l : List (AV × AV)}, keyAt kt k l = some (some v) → ∃ p ∈ l, p.2 = v ∧ keyEq kt k p.1 = some true := by
  intro l
  induction l with
  | nil => intro h; cases h
  | cons x l ih =>
    intro h
    rw [keyAt_cons] at h
    cases he : keyEq kt k x.1 with
    | none => rw [he] at h; cases h
    | some b =>
      rw [he] at h
      cases b with
      | true => cases h; exact ⟨x, by simp, rfl, he⟩
      | false => obtain ⟨p, h1, h2⟩ := ih h; exact ⟨p, by simp [h1], h2⟩
theorem keyAt_none {kt : KT} {k : AV} : ∀ {l : List (AV × AV)}, keyAt kt k l = some none → ∀ p ∈ l, keyEq kt k p.1 = some false := by
  intro l
  induction l with
  | nil => intro _ p hp; simp at hp
  | cons x l ih =>
    intro h p hp
    rw [keyAt_cons] at h
    cases he : keyEq kt k x.1 with
    | none => rw [he] at h; cases h
    | some b =>
      rw [he] at h
      cases b with
      | true => cases h
      | false =>
        rcases List.mem_cons.1 hp with rfl | hp
        · exact he
        · exact ih h p hp
theorem keyAt_of {kt : KT} {k : AV} {p : AV × AV} (hp : keyEq kt k p.1 = some true) : ∀ {l : List (AV × AV)}, (∀ q ∈ l, q = p ∨ keyEq kt k q.1 = some false) → p ∈ l → keyAt kt k l = some (some p.2) := by
  intro l
  induction l with
  | nil => intro _ h; simp at h
  | cons x l ih =>
    intro h hm
    rw [keyAt_cons]
    rcases h x (by simp) with rfl | hx
    · rw [hp]
    · rw [hx]
      have : p ≠ x := fun e => by rw [e, hx] at hp; cases hp
      exact ih (fun q hq => h q (by simp [hq])) (by rcases List.mem_cons.1 hm with h1 | h1; exact absurd h1 this; exact h1)
theorem keyAt_of_none {kt : KT} {k : AV} : ∀ {l : List (AV × AV)}, (∀ q ∈ l, keyEq kt k q.1 = some false) → keyAt kt k l = some none := by
  intro l
  induction l with
  | nil => intro _; rfl
  | cons x l ih => intro h; rw [keyAt_cons, h x (by simp)]; exact ih fun q hq => h q (by simp [hq])
theorem keyAt_perm {kt : KT} {k : AV} {l l' : List (AV × AV)} {r : Option AV} (hp : l'.Perm l) (hd : Dist kt l) (h : keyAt kt k l = some r) : keyAt kt k l' = some r := by
  cases r with
  | none => exact keyAt_of_none fun q hq => keyAt_none h q (hp.mem_iff.1 hq)
  | some v =>
    obtain ⟨p, h1, rfl, h3⟩ := keyAt_some h
    refine keyAt_of h3 (fun q hq => ?_) (hp.mem_iff.2 h1)
    rcases hd.of_mem q (hp.mem_iff.1 hq) p h1 with h4 | h4
    · exact .inl h4
    · right
      rw [keyEq_true h3, keyEq_comm]; exact h4
theorem keyPut_found {kt : KT} {k x v : AV} : ∀ {l : List (AV × AV)}, keyAt kt k l = some (some v) → ∃ A B p, l = A ++ p :: B ∧ keyPut kt k x l = A ++ (k, x) :: B ∧ keyEq kt k p.1 = some true := by
  intro l
  induction l with
  | nil => intro h; cases h
  | cons y l ih =>
    intro h
    rw [keyAt_cons] at h
    rw [keyPut_cons]
    cases he : keyEq kt k y.1 with
    | none => rw [he] at h; cases h
    | some b =>
      rw [he] at h
      cases b with
      | true => exact ⟨[], l, y, rfl, rfl, he⟩
      | false =>
        obtain ⟨A, B, p, h1, h2, h3⟩ := ih h
        refine ⟨y :: A, B, p, by rw [h1]; rfl, ?_, h3⟩
        simp only [h2]; rfl
theorem keyPut_new {kt : KT} {k x : AV} : ∀ {l : List (AV × AV)}, keyAt kt k l = some none → keyPut kt k x l = l ++ [(k, x)] := by
  intro l
  induction l with
  | nil => intro _; rfl
  | cons y l ih =>
    intro h
    rw [keyAt_cons] at h
    rw [keyPut_cons]
    cases he : keyEq kt k y.1 with
    | none => rw [he] at h; cases h
    | some b =>
      rw [he] at h
      cases b with
      | true => cases h
      | false => simp only [ih h]; rfl
theorem s_mkM (hH : HR φ σ w) {t k e : TypeId} {kt : KT} (ho : o.op = .makeMap t none) (_ : P.underlying t = some (.map k e)) (hm : m σ.n) :
    SR m φ σ w (hMkM kt base τ σ) ((execOp a.eval o).run P w) := by
  refine .no_or fun hne => ?_
  unfold hMkM at hne ⊢
  obtain ⟨n', hn', he⟩ := H.new_eq rfl hne
  rw [← he]
  have hnum : n'.num = σ.n.num + 1 := Id.succ_num hn'
  obtain ⟨h1, h2⟩ := HR.add (m := m) (hkp := fun h => absurd h (Nat.lt_irrefl _)) (σ' := ⟨n', set5 σ.n (some (.map kt [])) σ.m⟩) (w' := w.alloc (.map #[] 0)) hH σ.n (.map kt []) w.heap.size 0 (hH.fresh _ (Nat.le_refl _)) hm (by show σ.n.num ≤ n'.num; omega) (by show σ.n.num < n'.num; omega) (fun j => H.blk_new σ n' _ j)
    (fun i y z hi hc => by
      obtain ⟨c', z', h1, h2⟩ := hH.blk i y hi
      rw [hc] at h1; cases h1
      have := h2.lt
      omega)
    (fun k hk _ => heap_alloc_old w _ k hk) (by show _ ≤ (w.heap.push _).size; simp) rfl rfl rfl
    ⟨#[], 0, [], heap_alloc_new w _, .nil, .nil, .nil, .nil, fun p hp => (by simp at hp), ⟨by simp, by simp⟩⟩
  refine ⟨_, _, _, .inl ?_, .map _ _ _ (upd_same _ _ _), h1, h2 (Nat.le_refl _)⟩
  simp [execOp, ho, Instr.makeMap]
theorem s_look (hT : TR φ N τ a) (hH : HR φ σ w) {t k e : TypeId} {kt : KT} {ok : Bool} {j : TypeInfo} {z : Value} {z' : AV} {x i : Operand} {x' i' : AX} (ho : o.op = .lookup t x i ok) (hu : P.underlying t = some (.map k e)) (hj : P.info? e = some j) (hz : j.zero = some z) (hz' : zeroOf z = some z') (hk : keyK P k = some kt)
    (hx : axOf x = some x') (hi : axOf i = some i') : SR m φ σ w (hLook kt z' ok x' i' base τ σ) ((execOp a.eval o).run P w) := by
  have h := evR hT hx
  have h2 := evR hT hi
  have hzv : VR φ z' z := zeroOf_R hz' φ
  unfold hLook
  generalize ev τ i' = ki at h2
  generalize hiv : a.eval i = kv at h2
  cases hkk : keyEq kt ki ki with
  | none => exact trivial
  | some b =>
  cases b with
  | false => exact trivial
  | true =>
  obtain ⟨g1, g2, g3⟩ := key_ground (w := w) hk hkk h2
  have miss : ∀ {es : Array MapEntry}, (Instr.findKey k kv es.toList).run P w = .ok none w → (a.eval x = .map none ∧ es = #[] ∨ ∃ r clock, a.eval x = .map (some r) ∧ (getObj r).run P w = .ok (.map es clock) w) →
      SR m φ σ w (.ok (if ok then .tup [z', .bool false] else z') σ) ((execOp a.eval o).run P w) := by
    intro es hf hes
    refine .pure hH (v' := if ok then .tuple #[z, .bool false] else z) ?_ ?_
    · cases ok
      · exact hzv
      · exact .tup _ [z, .bool false] (.cons _ _ _ _ hzv (.cons _ _ _ _ (.bool _) .nil))
    · rcases hes with ⟨hv, rfl⟩ | ⟨r, clock, hv, hg⟩
      · simp only [execOp, ho, Sem.run_bind, Instr.lookup, run_underlying hu, Result.andThen_ok, hv, Sem.run_pure, hiv, g1, hf, zeroValue, typeInfo, run_program, hj, hz]
      · simp only [execOp, ho, Sem.run_bind, Instr.lookup, run_underlying hu, Result.andThen_ok, hv, hg, Sem.run_pure, hiv, g1, hf, zeroValue, typeInfo, run_program, hj, hz]
  generalize ev τ x' = q at h
  generalize hv : a.eval x = v at h miss
  cases h <;> try exact trivial
  · rename_i b c zz hb
    change SR m φ σ w (match σ.blk b with
      | some (.map kt' l) => if kt ≠ kt' then OR.no else (match keyAt kt ki l with
        | some (some v) => OR.ok (if ok then .tup [v, .bool true] else v) σ
        | some none => OR.ok (if ok then .tup [z', .bool false] else z') σ
        | none => OR.no)
      | _ => OR.no) _
    cases hblk : σ.blk b with
    | none => exact trivial
    | some blk =>
    cases blk with
    | cells t n => exact trivial
    | iter l p => exact trivial
    | map kt' l =>
      simp only
      by_cases hkt : kt ≠ kt'
      · rw [if_pos hkt]; exact trivial
      · rw [if_neg hkt]
        have hkt' : kt = kt' := Classical.not_not.1 hkt
        subst hkt'
        obtain ⟨c', z1, hb', es, clock, l', h3, h4, h5, h6, h7, h8, hst⟩ := hH.blk b _ hblk
        rw [hb] at hb'; cases hb'
        have hg : (getObj c).run P w = .ok (.map es clock) w := by simp [getObj, Sem.run, h3]
        cases hat : keyAt kt ki l with
        | none => exact trivial
        | some r =>
          have hat' := keyAt_perm h4 h7 hat
          obtain ⟨res, h9, h10⟩ := findKey_R (w := w) hk h2 h5 h6 hat'
          cases r with
          | none =>
            have : res = none := h10
            subst this
            exact miss h9 (.inr ⟨c, clock, rfl, hg⟩)
          | some u =>
            obtain ⟨jj, v', p, rfl, h11, h12, h13, _⟩ := h10
            refine .pure hH (v' := if ok then .tuple #[v', .bool true] else v') ?_ ?_
            · cases ok
              · exact h13
              · exact .tup _ [v', .bool true] (.cons _ _ _ _ h13 (.cons _ _ _ _ (.bool _) .nil))
            · simp only [execOp, ho, Sem.run_bind, Instr.lookup, run_underlying hu, Result.andThen_ok, hv, hg, Sem.run_pure, hiv, g1, h9]
  · have hf : (Instr.findKey k kv (#[] : Array MapEntry).toList).run P w = .ok none w := by
      obtain ⟨res, h9, h10⟩ := findKey_R (w := w) (es := []) (l := []) (r := none) hk h2 .nil .nil rfl
      have : res = none := h10
      subst this
      exact h9
    exact miss hf (.inl ⟨rfl, rfl⟩)
theorem s_upd (hT : TR φ N τ a) (hH : HR φ σ w) {t k e : TypeId} {kt : KT} {p i x : Operand} {p' i' x' : AX} (ho : o.op = .mapUpdate t p i x ∨ o.op = .insert t p i x) (hu : P.underlying t = some (.map k e)) (hk : keyK P k = some kt)
    (hp : axOf p = some p') (hi : axOf i = some i') (hx : axOf x = some x') : SR m φ σ w (hUpd kt p' i' x' base τ σ) ((execOp a.eval o).run P w) := by
  have h := evR hT hp
  have h2 := evR hT hi
  have hxv := evR hT hx
  unfold hUpd
  generalize ev τ i' = ki at h2
  generalize hiv : a.eval i = kv at h2
  cases hkk : keyEq kt ki ki with
  | none => exact trivial
  | some b =>
  cases b with
  | false => exact trivial
  | true =>
  obtain ⟨g1, g2, g3⟩ := key_ground (w := w) hk hkk h2
  generalize ev τ p' = q at h
  generalize hv : a.eval p = v at h
  cases h <;> try exact trivial
  rename_i b c zz hb
  change SR m φ σ w (match σ.blk b with
      | some (.map kt' l) => if kt ≠ kt' then OR.no else (match keyAt kt ki l with
        | some _ => OR.ok uv (σ.put b (some (.map kt (keyPut kt ki (ev τ x') l))))
        | none => OR.no)
      | _ => OR.no) _
  cases hblk : σ.blk b with
  | none => exact trivial
  | some blk =>
  cases blk with
  | cells t n => exact trivial
  | iter l p => exact trivial
  | map kt' l =>
  simp only
  by_cases hkt : kt ≠ kt'
  · rw [if_pos hkt]; exact trivial
  rw [if_neg hkt]
  have hkt' : kt = kt' := Classical.not_not.1 hkt
  subst hkt'
  obtain ⟨c', z1, hb', es, clock, l', h3, h4, h5, h6, h7, h8, hst⟩ := hH.blk b _ hblk
  rw [hb] at hb'; cases hb'
  have hg : (getObj c).run P w = .ok (.map es clock) w := by simp [getObj, Sem.run, h3]
  have hset : ∀ o', (setObj c o').run P w = .ok () { w with heap := w.heap.setIfInBounds c o' } := fun o' => by simp [setObj, Sem.run, h3]
  have hclt := (Array.getElem?_eq_some_iff.1 h3).1
  have hlen : l'.length = es.toList.length := by have := h5.length; simpa using this.symm
  cases hat : keyAt kt ki l with
  | none => exact trivial
  | some r =>
  have hat' := keyAt_perm h4 h7 hat
  obtain ⟨res, h9, h10⟩ := findKey_R (w := w) hk h2 h5 h6 hat'
  cases r with
  | none =>
    have : res = none := h10
    subst this
    have hnew := keyAt_none hat
    obtain ⟨h11, h12⟩ := HR.put (m := m) (x' := .map kt (keyPut kt ki (ev τ x') l)) (w' := { w with heap := w.heap.setIfInBounds c (.map (es.push { key := kv, val := a.eval x, born := clock }) (clock + 1)) }) hH hblk hb
      (fun k hk => by show (w.heap.setIfInBounds _ _)[k]? = _; rw [Array.getElem?_setIfInBounds_ne (Ne.symm hk)]) (by simp) rfl rfl rfl
      ⟨_, _, l' ++ [(ki, ev τ x')], by show (w.heap.setIfInBounds _ _)[c]? = _; rw [Array.getElem?_setIfInBounds_self_of_lt hclt], by rw [keyPut_new hat]; exact h4.append_right _,
        by simpa using h5.append (.cons _ _ _ _ h2 .nil), by simpa using h6.append (.cons _ _ _ _ hxv .nil), by
          rw [keyPut_new hat]
          refine List.pairwise_append.2 ⟨h7, by simp, fun p hp q hq => ?_⟩
          simp at hq; subst hq
          rw [keyEq_comm]; exact hnew p hp, by
          rw [keyPut_new hat]
          intro p hp
          rcases List.mem_append.1 hp with hp | hp
          · exact h8 p hp
          · simp at hp; subst hp; exact hkk, hst.push _ _⟩
    refine ⟨φ, undef, _, .inr ⟨?_, rfl⟩, uvR φ, h11, h12⟩
    rcases ho with ho | ho <;> simp only [execOp, ho, Sem.run_bind, Instr.mapUpdate, run_underlying hu, Result.andThen_ok, hv, hg, hiv, g1, h9, hset, Sem.run_pure]
  | some u =>
    obtain ⟨jj, v', pp, rfl, h11, h12, h13, h14⟩ := h10
    rw [Nat.zero_add] at h9
    obtain ⟨A, B, p0, e1, e2, e3⟩ := keyPut_found (x := ev τ x') hat
    have hpp : pp = p0 := by
      have m1 : pp ∈ l := h4.mem_iff.1 (List.mem_of_getElem? h11)
      have m2 : p0 ∈ l := by rw [e1]; simp
      rcases Dist.of_mem h7 pp m1 p0 m2 with h | h
      · exact h
      · rw [← keyEq_true h14, e3] at h; cases h
    subst hpp
    have hkey : (l'.map (·.1))[jj]? = some ki := by rw [List.getElem?_map, h11]; simp [keyEq_true h14]
    obtain ⟨kv2, h15, h16⟩ := h5.get jj ki hkey
    have hkv2 := g3 kv2 h16
    have hes : ∃ en, es[jj]? = some en ∧ en.key = kv := by
      rw [List.getElem?_map] at h15
      cases hq : es.toList[jj]? with
      | none => rw [hq] at h15; cases h15
      | some en => rw [hq] at h15; simp at h15; exact ⟨en, by simpa using hq, by rw [h15, hkv2]⟩
    obtain ⟨en, hen, henk⟩ := hes
    have hstay : (Instr.keyThatStays kv kv).run P w = .ok kv w := by
      have hsb : Instr.sameBits 10000 kv kv = true := g2 9998
      simp [Instr.keyThatStays, hsb]
    have hold : ((es[jj]?).map (·.key)).getD kv = kv := by rw [hen]; exact henk
    have hkk1 : ki = pp.1 := keyEq_true h14
    have hfst : (keyPut kt ki (ev τ x') l).map (·.1) = l.map (·.1) := by rw [e2, e1]; simp [hkk1]
    have hsetl : l'.set jj (ki, ev τ x') = l'.take jj ++ (ki, ev τ x') :: l'.drop (jj + 1) := by
      have hj : jj < l'.length := (List.getElem?_eq_some_iff.1 h11).1
      rw [List.set_eq_take_append_cons_drop, if_pos hj]
    have hl' : l' = l'.take jj ++ pp :: l'.drop (jj + 1) := by
      have hj : jj < l'.length := (List.getElem?_eq_some_iff.1 h11).1
      have : l'[jj] = pp := (List.getElem?_eq_some_iff.1 h11).2
      conv => lhs; rw [← List.take_append_drop jj l']
      rw [List.drop_eq_getElem_cons hj, this]
    have hperm : (l'.set jj (ki, ev τ x')).Perm (keyPut kt ki (ev τ x') l) := by
      rw [hsetl, e2]
      have h17 : (l'.take jj ++ pp :: l'.drop (jj + 1)).Perm (A ++ pp :: B) := by rw [← hl', ← e1]; exact h4
      have h18 : (l'.take jj ++ l'.drop (jj + 1)).Perm (A ++ B) := ((List.perm_middle.symm.trans h17).trans List.perm_middle).cons_inv
      exact (List.perm_middle.trans (h18.cons _)).trans List.perm_middle.symm
    have hmod : (es.modify jj fun e => { e with key := kv, val := a.eval x }).toList = es.toList.set jj { en with key := kv, val := a.eval x } := by
      apply List.ext_getElem?
      intro q
      simp only [Array.getElem?_toList, Array.getElem?_modify, List.getElem?_set]
      by_cases hq : jj = q
      · subst hq
        rw [if_pos rfl, if_pos rfl, hen]
        have := (Array.getElem?_eq_some_iff.1 hen).1
        simp [this]
      · rw [if_neg hq, if_neg hq]
    have setR : ∀ {A : List AV} {A' : List Value} {x : AV} {v : Value}, VRs φ A A' → VR φ x v → VRs φ (A.set jj x) (A'.set jj v) := fun {A A' x v} hA hx => by
      refine .of_get (by simp [hA.length]) fun q y hy => ?_
      rw [List.getElem?_set] at hy ⊢
      by_cases hq : jj = q
      · rw [if_pos hq] at hy ⊢
        have hl := hA.length
        by_cases hlt : jj < A.length
        · rw [if_pos hlt] at hy; cases hy; exact ⟨v, by rw [if_pos (by omega)], hx⟩
        · rw [if_neg hlt] at hy; cases hy
      · rw [if_neg hq] at hy ⊢; exact hA.get q y hy
    obtain ⟨h11', h12'⟩ := HR.put (m := m) (x' := .map kt (keyPut kt ki (ev τ x') l)) (w' := { w with heap := w.heap.setIfInBounds c (.map (es.modify jj fun e => { e with key := kv, val := a.eval x }) clock) }) hH hblk hb
      (fun k hk => by show (w.heap.setIfInBounds _ _)[k]? = _; rw [Array.getElem?_setIfInBounds_ne (Ne.symm hk)]) (by simp) rfl rfl rfl
      ⟨_, _, l'.set jj (ki, ev τ x'), by show (w.heap.setIfInBounds _ _)[c]? = _; rw [Array.getElem?_setIfInBounds_self_of_lt hclt], hperm,
        by rw [hmod, List.map_set, List.map_set]; exact setR h5 h2, by rw [hmod, List.map_set, List.map_set]; exact setR h6 hxv, by
          have : (l.map (·.1)).Pairwise (fun p q => keyEq kt p q = some false) := List.pairwise_map.2 h7
          rw [← hfst] at this
          exact List.pairwise_map.1 this, by
          intro p hp
          have hp1 : p.1 ∈ (keyPut kt ki (ev τ x') l).map (·.1) := List.mem_map_of_mem hp
          rw [hfst] at hp1
          obtain ⟨p2, hp2, hp3⟩ := List.mem_map.1 hp1
          rw [← hp3]; exact h8 p2 hp2, hst.set hen kv (a.eval x) hmod⟩
    refine ⟨φ, undef, _, .inr ⟨?_, rfl⟩, uvR φ, h11', h12'⟩
    rcases ho with ho | ho <;> simp only [execOp, ho, Sem.run_bind, Instr.mapUpdate, run_underlying hu, Result.andThen_ok, hv, hg, hiv, g1, h9, hold, hstay, hset, Sem.run_pure]
end
end Go.Dk
namespace Go.Dk
open Go
variable [Keep]
section
variable {P : Program} {m : Id → Prop} {N : Nat} {φ : Emb} {σ : H} {w : World} {τ : Fr} {a : Act} {o : Oper} {base : Id}
def OpR (P : Program) (m : Id → Prop) (φ : Emb) (σ : H) (w : World) (r : OR) (res : Result Next) : Prop :=
  match r with
  | .no => True
  | .ok v σ' => OkR m φ σ w v σ' res
  | .call k args => CallsOk P k.num → ∃ args', res = .ok (.enter k.num args'.toArray) w ∧ VRs φ args args'
theorem SR.toOp {m : Id → Prop} {r : OR} {res : Result Next} (h : SR m φ σ w r res) : OpR P m φ σ w r res := by
  cases r with
  | no => exact trivial
  | ok v σ' => exact h
  | call k args => exact fun _ => h
theorem op_R (hT : TR φ N τ a) (hH : HR φ σ w) {rsv : Option Nat} (hr : RsvOk m φ σ base rsv) {ao : AO} (h : opOf P rsv o = some ao) : OpR P m φ σ w (ao.run base τ σ) ((execOp a.eval o).run P w) := by
  have hm := hr.1
  unfold opOf at h
  split at h
  · rename_i x ho; obtain ⟨x', hx, rfl⟩ := Option.map_eq_some_iff.1 h; exact SR.toOp (s_mv (m := m) (base := base) hT hH (.inl ho) hx)
  · rename_i x ho; obtain ⟨x', hx, rfl⟩ := Option.map_eq_some_iff.1 h; exact SR.toOp (s_mv (m := m) (base := base) hT hH (.inr ho) hx)
  · rename_i c x y ho
    split at h
    · cases h; rename_i hc hx hy; exact SR.toOp (s_pick (base := base) hT hH ho hc hx hy)
    · cases h
  · rename_i e ho
    split at h
    · rename_i i hi
      split at h
      · rename_i z hz; obtain ⟨z', hz', rfl⟩ := Option.map_eq_some_iff.1 h; exact SR.toOp (s_alloc (base := base) hH hr ho hi hz hz')
      · cases h
    · cases h
  · rename_i e x ho; obtain ⟨x', hx, rfl⟩ := Option.map_eq_some_iff.1 h; exact SR.toOp (s_box (base := base) hT hH hr ho hx)
  · rename_i t ps ho
    split at h
    · rename_i i fs hi hu
      split at h
      · rename_i z hz
        split at h
        · rename_i z' ps' hz' hps
          by_cases hall : allSizes P fs = true
          · rw [if_pos hall] at h; cases h; exact SR.toOp (s_build_struct (base := base) hT hH ho hi hu hz hz' (zc_hzo hz') hps hall)
          · rw [if_neg hall] at h; cases h
        · cases h
      · cases h
    · rename_i i n e hi hu
      split at h
      · rename_i z j hz hj
        split at h
        · rename_i z' ps' hz' hps; cases h; exact SR.toOp (s_build_array (base := base) hT hH ho hi hu hj hz hz' (zc_hzo hz') hps)
        · cases h
      · cases h
    · cases h
  · rename_i t len ps ho
    split at h
    · rename_i e hu
      split at h
      · rename_i j hj
        split at h
        · rename_i z hz
          split at h
          · rename_i z' ps' hz' hps
            by_cases hc : z'.length = j.size ∧ 0 < j.size ∧ len * j.size ≤ 2 ^ 20
            · rw [if_pos hc] at h; cases h; exact SR.toOp (s_buildS (base := base) hT hH hr ho hu hj hz hz' (zc_hzo hz') hps hc.1 hc.2.1 hc.2.2)
            · rw [if_neg hc] at h; cases h
          · cases h
        · cases h
      · cases h
    · cases h
  · rename_i t x ho
    split at h
    · rename_i n x' hn hx; cases h; exact SR.toOp (s_load (base := base) hT hH ho hn hx)
    · cases h
  · rename_i t p x ho
    split at h
    · rename_i i p' x' hi hp hx; cases h; exact SR.toOp (s_store (base := base) hT hH ho hi hp hx)
    · cases h
  · rename_i x ho; obtain ⟨x', hx, rfl⟩ := Option.map_eq_some_iff.1 h; exact SR.toOp (s_nilck (base := base) hT hH ho hx)
  · rename_i op t x y u ho
    split at h
    · rename_i x' y' hx hy
      by_cases hp : numOrStr P t = true
      · rw [if_pos hp] at h; cases h; exact SR.toOp (s_bin (base := base) hT hH ho hx hy)
      · rw [if_neg hp] at h
        split at h
        · rename_i c hc; cases h; exact SR.toOp (s_eq (base := base) hT hH ho (.inl ⟨rfl, rfl⟩) hx hy hc)
        · rename_i c hc; cases h; exact SR.toOp (s_eq (base := base) hT hH ho (.inr ⟨rfl, rfl⟩) hx hy hc)
        · cases h
    · cases h
  · rename_i op t x ho; obtain ⟨x', hx, rfl⟩ := Option.map_eq_some_iff.1 h; exact SR.toOp (s_un (base := base) hT hH ho hx)
  · rename_i s d x ho
    split at h
    · rename_i k0 k x' hs hd hx; cases h; exact SR.toOp (s_convI (base := base) hT hH ho hs hd hx)
    · rename_i x' hs hd hx; cases h; exact SR.toOp (s_convSS (base := base) hT hH ho hs hd hx)
    · rename_i e x' hs hd hx
      split at h
      · rename_i he; cases h; exact SR.toOp (s_convBS (base := base) hT hH ho hs hd he hx)
      · cases h
    · cases h
  · rename_i t x ho
    split at h
    · cases h
    · rename_i d x' hn hu hx; cases h; exact SR.toOp (s_mkif (base := base) hT hH ho hu (fun ms e => hn ms (by rw [e])) hx)
    · cases h
  · rename_i f xs ys ho
    split at h
    · rename_i a' b' hx hy; cases h; exact SR.toOp (s_mkfn (base := base) hT hH ho hx hy)
    · cases h
  · rename_i s x i ho
    split at h
    · rename_i fs x' hu hx
      split at h
      · rename_i f hf
        split at h
        · rename_i j hj
          by_cases hz : j.size ≠ 0
          · rw [if_pos hz] at h; cases h; exact SR.toOp (s_fieldA (base := base) hT hH ho hu hf hj hz hx)
          · rw [if_neg hz] at h; cases h
        · cases h
      · cases h
    · cases h
  · rename_i s x i ho
    split at h
    · rename_i fs x' hu hx
      split at h
      · rename_i f hf
        split at h
        · rename_i n hn; cases h; exact SR.toOp (s_field (base := base) hT hH ho hu hf hn hx)
        · cases h
      · cases h
    · cases h
  · rename_i t x i ho
    split at h
    · rename_i e x' i' hu hx hi
      split at h
      · rename_i j hj; cases h; exact SR.toOp (s_idxA_slice (base := base) hT hH ho hu hj hx hi)
      · cases h
    · rename_i n e x' i' hu hx hi
      split at h
      · rename_i j hj; cases h; exact SR.toOp (s_idxA_arr (base := base) hT hH ho hu hj hx hi)
      · cases h
    · cases h
  · rename_i t x i ho
    split at h
    · rename_i x' i' hu hx hi; cases h; exact SR.toOp (s_idxS (base := base) hT hH ho hu hx hi)
    · rename_i n e x' i' hu hx hi
      split at h
      · rename_i j q hj hq; cases h; exact SR.toOp (s_idxV (base := base) hT hH ho hu hj hq hx hi)
      · cases h
    · cases h
  · rename_i t x lo hi mx ho
    split at h
    · rename_i x' lo' hi' hu hx hlo hhi hmx
      cases h
      have : mx = none := by
        cases mx with
        | none => rfl
        | some q => change (axOf q).map some = some none at hmx; cases hq : axOf q <;> rw [hq] at hmx <;> cases hmx
      subst this
      exact SR.toOp (s_sliS (base := base) hT hH ho hu hx hlo hhi)
    · rename_i e x' lo' hi' mx' hu hx hlo hhi hmx
      split at h
      · rename_i j hj
        by_cases hno : noHi hi mx = true
        · rw [if_pos hno] at h; cases h
        · rw [if_neg hno] at h; cases h; exact SR.toOp (s_sliL (base := base) hT hH ho hu hj hx hlo hhi hmx (by simpa [noHi] using hno))
      · cases h
    · rename_i n e x' lo' hi' mx' hu hx hlo hhi hmx
      split at h
      · rename_i j hj
        by_cases hno : noHi hi mx = true
        · rw [if_pos hno] at h; cases h
        · rw [if_neg hno] at h; cases h; exact SR.toOp (s_sliA (base := base) hT hH ho hu hj hx hlo hhi hmx (by simpa [noHi] using hno))
      · cases h
    · cases h
  · rename_i x i ho; obtain ⟨x', hx, rfl⟩ := Option.map_eq_some_iff.1 h; exact SR.toOp (s_ext (base := base) hT hH ho hx)
  · rename_i t x i ok ho
    split at h
    · rename_i k e x' i' hu hx hi
      split at h
      · rename_i j hj
        split at h
        · rename_i z hz
          split at h
          · rename_i z' kt hz' hk; cases h; exact SR.toOp (s_look (base := base) hT hH ho hu hj hz hz' hk hx hi)
          · cases h
        · cases h
      · cases h
    · cases h
  · rename_i t p i x ho
    split at h
    · rename_i k e p' i' x' hu hp hi hx; obtain ⟨kt, hk, rfl⟩ := Option.map_eq_some_iff.1 h; exact SR.toOp (s_upd (base := base) hT hH (.inl ho) hu hk hp hi hx)
    · cases h
  · rename_i t p i x ho
    split at h
    · rename_i k e p' i' x' hu hp hi hx; obtain ⟨kt, hk, rfl⟩ := Option.map_eq_some_iff.1 h; exact SR.toOp (s_upd (base := base) hT hH (.inr ho) hu hk hp hi hx)
    · cases h
  · rename_i t ho
    split at h
    · rename_i k e hu; obtain ⟨kt, hk, rfl⟩ := Option.map_eq_some_iff.1 h; exact SR.toOp (s_mkM (base := base) (τ := τ) hH ho hu hm)
    · cases h
  · rename_i t l c ho
    split at h
    · rename_i e l' c' hu hl hc
      split at h
      · rename_i j hj
        split at h
        · rename_i z hz
          split at h
          · rename_i z' hz'
            by_cases hcond : z'.length = j.size ∧ 0 < j.size
            · rw [if_pos hcond] at h; cases h; exact SR.toOp (s_mkS (base := base) hT hH ho hu hj hz hz' (zc_hzo hz') hcond.1 hl hc hm)
            · rw [if_neg hcond] at h; cases h
          · cases h
        · cases h
      · cases h
    · cases h
  · rename_i t x ho
    split at h
    · rename_i x' hu hx; cases h; exact SR.toOp (s_rangeS (base := base) hT hH ho hu hx hm)
    · cases h; exact trivial
    · cases h
  · rename_i x ho; obtain ⟨x', hx, rfl⟩ := Option.map_eq_some_iff.1 h; exact SR.toOp (s_nextS (base := base) hT hH ho hx)
  · rename_i x ho; obtain ⟨x', hx, rfl⟩ := Option.map_eq_some_iff.1 h; exact trivial
  · rename_i x ho; obtain ⟨x', hx, rfl⟩ := Option.map_eq_some_iff.1 h; exact trivial
  · rename_i f xs ts ho
    split at h
    · rename_i fn l hf hl
      by_cases hc : f < 512 ∧ fn.body.isSome = true ∧ fn.name ≠ "runtime.NumGoroutine"
      · rw [if_pos hc] at h; cases h; exact SR.toOp (s_callF (base := base) (m := m) (σ := σ) hT ho hf hc.1 hc.2.1 hc.2.2 hl)
      · rw [if_neg hc] at h; cases h
    · cases h
  · rename_i x xs ts hnf ho
    split at h
    · rename_i x' l hx hl
      cases h
      have hv := evR hT hx
      have key : ∀ f first cap, ev τ x' = .func f first cap → f < 512 → CallsOk P f → SR m φ σ w (hCallV x' l base τ σ) ((execOp a.eval o).run P w) := fun f first cap he hf hok =>
        s_callV hT ho hx hl fun f' first' cap' he' _ => by rw [he] at he'; cases he'; exact hok
      show OpR P m φ σ w (hCallV x' l base τ σ) _
      unfold hCallV at key ⊢
      cases he : ev τ x' <;> try exact trivial
      rename_i f first cap
      simp only
      by_cases hf : f < 512
      · rw [if_pos hf]
        intro hok
        rw [I3.of_num hf] at hok
        have := key f first cap he hf hok
        rw [he] at this
        simp only [if_pos hf] at this
        exact this
      · rw [if_neg hf]; exact trivial
    · cases h
  · rename_i x t ho
    split at h
    · rename_i n e x' hu hx; cases h; exact SR.toOp (s_lenK (base := base) (ax := x') hT hH (.inl rfl) ho (.inl ⟨_, hu⟩))
    · rename_i e' x' hu hx
      split at h
      · rename_i n e hu'; cases h; exact SR.toOp (s_lenK (base := base) (ax := x') hT hH (.inl rfl) ho (.inr ⟨rfl, _, _, hu, hu'⟩))
      · cases h
    · rename_i x' hu hx; cases h; exact SR.toOp (s_len (base := base) (k := .str) hT hH ho hx hu)
    · rename_i e x' hu hx; cases h; exact SR.toOp (s_len (base := base) (k := .sli) hT hH ho hx ⟨_, hu⟩)
    · rename_i k e x' hu hx; cases h; exact SR.toOp (s_len (base := base) (k := .map) hT hH ho hx ⟨_, _, hu⟩)
    · cases h
  · rename_i x t ho
    split at h
    · rename_i n e x' hu hx; cases h; exact SR.toOp (s_lenK (base := base) (ax := x') hT hH (.inr rfl) ho (.inl ⟨_, hu⟩))
    · rename_i e x' hu hx; cases h; exact SR.toOp (s_capS (base := base) hT hH ho hx hu)
    · cases h
  · rename_i s x t u ho
    split at h
    · rename_i e ud s' x' ht hu hs hx
      split at h
      · rename_i j hj
        by_cases hc : appOk j ud = true
        · rw [if_pos hc] at h; cases h
          unfold appOk zeroFits at hc
          simp only [Bool.and_eq_true] at hc
          obtain ⟨⟨h1, _⟩, h3⟩ := hc
          cases hz : j.zero with
          | none => rw [hz] at h3; cases h3
          | some z =>
            rw [hz] at h3
            have hu' : (∃ e', P.underlying u = some (.slice e')) ∨ P.underlying u = some .string := by
              cases ud <;> first | exact .inl ⟨_, hu⟩ | exact .inr hu | (simp at h1)
            exact SR.toOp (s_app (base := base) hT hH ho ht hu' hj hz (by simpa using h3) hs hx hm)
        · rw [if_neg hc] at h; cases h
      · cases h
    · cases h
  · rename_i d s t u ho
    split at h
    · rename_i e ud d' s' ht hu hd hs
      split at h
      · rename_i j hj
        by_cases hc : copyOk j ud = true
        · rw [if_pos hc] at h; cases h; exact SR.toOp (s_copy (base := base) hT hH ho ht hj hd hs)
        · rw [if_neg hc] at h; cases h
      · cases h
    · cases h
  · rename_i x y ts ho
    split at h
    · rename_i x' y' hx hy; cases h; exact SR.toOp (s_min (base := base) hT hH ho hx hy)
    · cases h
  · rename_i x y ts ho
    split at h
    · rename_i x' y' hx hy; cases h; exact SR.toOp (s_max (base := base) hT hH ho hx hy)
    · cases h
  · cases h
end
end Go.Dk
namespace Go.Dk
open Go
variable [Keep]
section
variable {P : Program} {N : Nat} {φ : Emb} {σ : H} {w : World} {τ : Fr} {a : Act} {base : Id}

/-- What is asked of calls. -/
def CallR (P : Program) (cf : I3 → List AV → H → Option (AV × H)) : Prop :=
  ∀ k args σ v σ', cf k args σ = some (v, σ') → CallsOk P k.num ∧ ∀ φ w args', GOk φ → HR φ σ w → VRs φ args args' →
    Calls P k.num args'.toArray w fun e w' => ∃ φ' v', e = .returned v' ∧ VR φ' v v' ∧ HR φ' σ' w' ∧ Fm (From σ.n.num) φ σ w φ' σ' w'
/-- One operation: what it leaves in its slot, and memory. -/
noncomputable def AR.step (cf : I3 → List AV → H → Option (AV × H)) (o : AR) (base : Id) (τ : Fr) (σ : H) : Option (AV × H) :=
  match want o.guard τ with
  | true => match o.op.run base τ σ with
    | .ok v σ' => some (v, σ')
    | .call k args => cf k args σ
    | .no => none
  | false => some (uv, σ)
theorem AR.run_eq {α : Type} (cf : I3 → List AV → H → Option (AV × H)) (no : α) (k : Fr → H → α) (o : AR) (base : Id) (τ : Fr) (σ : H) :
    o.run cf no k base τ σ = match o.step cf base τ σ with | some (v, σ') => k (dput o.dst v τ) σ' | none => no := by
  obtain ⟨d, g, op⟩ := o
  show ite8 (want g τ) (OR.rec (motive := fun _ => α) no (fun v σ => k (dput d v τ) σ) (fun f args => Option.rec (motive := fun _ => α) no (fun p => Prod.rec (motive := fun _ => α) (fun v σ => k (dput d v τ) σ) p) (cf f args σ)) (op.run base τ σ)) (k (dput d uv τ) σ) = _
  unfold AR.step
  simp only
  cases want g τ with
  | false => rfl
  | true =>
    simp only
    cases op.run base τ σ with
    | no => rfl
    | ok v σ' => rfl
    | call f args =>
      show Option.rec (motive := fun _ => α) no (fun p => Prod.rec (motive := fun _ => α) (fun v σ => k (dput d v τ) σ) p) (cf f args σ) = _
      simp only
      cases cf f args σ with
      | none => rfl
      | some p => rfl
theorem want_R {ops : Array Oper} {o : Oper} {rsv : Option Nat} {ar : AR} (hT : TR φ N τ a) (h : arOf P N ops rsv o = some ar) : Region.wanted o (yielded ops a.tmps) = want ar.guard τ ∧ opOf P rsv o = some ar.op ∧ o.dst = ar.dst.map I3.num ∧ ∀ i, ar.dst = some i → i.num < N := by
  unfold arOf at h
  split at h
  · cases h
  · rename_i ao hop
    split at h
    · rename_i d g hd hg
      cases h
      have hdst : o.dst = d.map I3.num ∧ ∀ i, d = some i → i.num < N := by
        cases hq : o.dst with
        | none => rw [hq] at hd; cases hd; exact ⟨rfl, fun i hi => by cases hi⟩
        | some n =>
          rw [hq] at hd
          simp only at hd
          by_cases hn : n < N
          · rw [if_pos hn] at hd
            obtain ⟨i, hi, rfl⟩ := Option.map_eq_some_iff.1 hd
            have := i3?_num hi
            exact ⟨by simp [this], fun j hj => by cases hj; rw [this]; exact hn⟩
          · rw [if_neg hn] at hd; cases hd
      refine ⟨?_, hop, hdst.1, hdst.2⟩
      show Region.wanted o (yielded ops a.tmps) = want g τ
      unfold Region.wanted
      cases hq : o.guard with
      | none => rw [hq] at hg; cases hg; rfl
      | some jb =>
        obtain ⟨j, b⟩ := jb
        rw [hq] at hg
        simp only at hg ⊢
        cases hj : (ops[j]?).bind (·.dst) with
        | none => rw [hj] at hg; cases hg
        | some n =>
          rw [hj] at hg
          simp only at hg
          by_cases hn : n < N
          · rw [if_pos hn] at hg
            obtain ⟨i, hi, rfl⟩ := Option.map_eq_some_iff.1 hg
            have hin := i3?_num hi
            have hs := hT.slot i
            have hlt : n < a.tmps.size := by rw [hT.size]; exact hn
            rw [hin] at hs
            show (yielded ops a.tmps j == some b) = (get3 i τ).asBool false fun t => ite8 b t (not8 t)
            have hget : a.tmps.getD n undef = a.tmps[n] := by simp [Array.getD, hlt]
            rw [hget] at hs
            have hy : yielded ops a.tmps j = match a.tmps[n] with | .bool b => some b | _ => none := by
              unfold yielded
              rw [hj]
              simp only [Option.bind_some, Array.getElem?_eq_getElem hlt]
              generalize a.tmps[n] = v
              cases v <;> rfl
            rw [hy]
            generalize get3 i τ = x at hs
            generalize a.tmps[n] = v at hs
            cases hs <;> first
              | rfl
              | (rename_i t; cases t <;> cases b <;> rfl)
              | (rename_i hj; cases v <;> first | rfl | exact absurd rfl (hj _))
          · rw [if_neg hn] at hg; cases hg
    · cases h
theorem step_R {cf : I3 → List AV → H → Option (AV × H)} (hcf : CallR P cf) {ops : Array Oper} {o : Oper} {rsv : Option Nat} {ar : AR} (h : arOf P N ops rsv o = some ar) (hT : TR φ N τ a) (hH : HR φ σ w) {m : Id → Prop} (hr : RsvOk m φ σ base rsv) (hm : ∀ b, σ.n.num ≤ b.num → m b)
    {v : AV} {σ' : H} (hs : ar.step cf base τ σ = some (v, σ')) {K : Act → World → Prop} {Q : Exit → Act → World → Prop}
    (hK : ∀ φ' v' w', VR φ' v v' → HR φ' σ' w' → Fm m φ σ w φ' σ' w' → K (a.put o.dst v') w') :
    if Region.wanted o (yielded ops a.tmps) then o.wp P a w K Q else K (a.put o.dst undef) w := by
  obtain ⟨hw, hop, _, _⟩ := want_R hT h
  rw [hw]
  unfold AR.step at hs
  cases hwt : want ar.guard τ with
  | false =>
    rw [hwt] at hs
    cases hs
    exact hK φ undef w (uvR φ) hH (Fm.refl _ _ _ _)
  | true =>
    rw [hwt] at hs
    simp only at hs
    rw [if_pos rfl]
    have hR := op_R (P := P) hT hH hr hop
    unfold Oper.wp
    cases hrun : ar.op.run base τ σ with
    | no => rw [hrun] at hs; cases hs
    | ok v1 σ1 =>
      rw [hrun] at hs hR
      cases hs
      obtain ⟨φ', v', w', hres, h1, h2, h3⟩ := hR
      rcases hres with hres | ⟨hres, rfl⟩
      · rw [hres]; exact hK φ' v' w' h1 h2 h3
      · rw [hres]; exact hK φ' undef w' h1 h2 h3
    | call k args =>
      rw [hrun] at hs hR
      simp only at hs
      obtain ⟨hok, hc⟩ := hcf k args σ v σ' hs
      obtain ⟨args', hres, hv⟩ := hR hok
      rw [hres]
      show Calls P k.num args'.toArray w _
      refine (hc φ w args' hT.glob hH hv).mono ?_
      rintro e w' ⟨φ', v', rfl, h1, h2, h3⟩
      exact hK φ' v' w' h1 h2 (h3.weaken hm)
/-- Where the rest goes on. -/
def Nxt (N : Nat) (m : Id → Prop) (φ : Emb) (σ : H) (w : World) (K : Act → World → Prop) (τ' : Fr) (σ' : H) : Prop :=
  ∀ φ' a' w', TR φ' N τ' a' → HR φ' σ' w' → Fm m φ σ w φ' σ' w' → K a' w'
theorem runL_R {cf : I3 → List AV → H → Option (AV × H)} (hcf : CallR P cf) {ops : Array Oper} {Q : Exit → Act → World → Prop} : ∀ {ol : List Oper} {l : List AR} {φ : Emb} {σ : H} {w : World} {τ : Fr} {a : Act} {τ' : Fr} {σ' : H}, arsOf P N ops (ol.map fun _ => none) ol = some l →
    TR φ N τ a → HR φ σ w → base.num ≤ σ.n.num → runL cf base l τ σ = some (τ', σ') → Nxt N (From base.num) φ σ w (Q .normal) τ' σ' → wpList P ops Q ol a w := by
  intro ol
  induction ol with
  | nil =>
    intro l φ σ w τ a τ' σ' h hT hH _ hr hK
    cases h
    cases hr
    exact hK φ a w hT hH (Fm.refl _ _ _ _)
  | cons o ol ih =>
    intro l φ σ w τ a τ' σ' h hT hH hb hr hK
    simp only [List.map_cons] at h
    unfold arsOf at h
    split at h
    · rename_i ar r h1 h2
      cases h
      change ar.run cf none (runL cf base r) base τ σ = some (τ', σ') at hr
      rw [AR.run_eq] at hr
      cases hs : ar.step cf base τ σ with
      | none => rw [hs] at hr; cases hr
      | some p =>
        obtain ⟨v, σ1⟩ := p
        rw [hs] at hr
        simp only at hr
        obtain ⟨_, _, hd, hN⟩ := want_R hT h1
        refine wpList_step fun K hKK => step_R (m := From base.num) hcf h1 hT hH ⟨hb, fun j hj => by cases hj⟩ (fun b h => Nat.le_trans hb h) hs fun φ1 v' w1 g1 g2 g3 => hKK _ _ ?_
        exact ih h2 ((hT.mono g3.ext).put ar.dst o.dst hd hN g1) g2 (Nat.le_trans hb g3.n) hr fun φ2 a2 w2 q1 q2 q3 => hK φ2 a2 w2 q1 q2 (g3.trans q3)
    · cases h
end
end Go.Dk
namespace Go.Dk
open Go
variable [Keep]
section
variable {P : Program} {N : Nat} {φ : Emb} {σ : H} {w : World} {τ : Fr} {a : Act} {base : Id}

theorem evs_congr {τ τ' : Fr} : ∀ {l : List AX}, (∀ x ∈ l, ev τ x = ev τ' x) → evs τ l = evs τ' l := by
  intro l
  induction l with
  | nil => intro _; rfl
  | cons x l ih =>
    intro h
    show ev τ x :: evs τ l = ev τ' x :: evs τ' l
    rw [h x (by simp), ih fun y hy => h y (by simp [hy])]
theorem fillP_congr {τ τ' : Fr} : ∀ {ps : List (Nat × Nat × AX)}, (∀ x ∈ ps.map (·.2.2), ev τ x = ev τ' x) → ∀ z, fillP τ ps z = fillP τ' ps z := by
  intro ps
  induction ps with
  | nil => intro _ z; rfl
  | cons p ps ih =>
    intro h z
    obtain ⟨o, n, x⟩ := p
    have hx : ev τ x = ev τ' x := h x (by simp)
    have hr : fillP τ ps = fillP τ' ps := funext fun z => ih (fun y hy => h y (by simp at hy ⊢; exact .inr hy)) z
    show (ev τ x).asCells none (fun l => ite8 (Nat.beq (len8 l) n) (Option.rec (motive := fun _ => Option (List AV)) none (fun z => fillP τ ps z) (lay8 l o z)) none) = (ev τ' x).asCells none (fun l => ite8 (Nat.beq (len8 l) n) (Option.rec (motive := fun _ => Option (List AV)) none (fun z => fillP τ' ps z) (lay8 l o z)) none)
    rw [hx, hr]
theorem bnd_congr {τ τ' : Fr} {x : Option AX} (h : ∀ y ∈ oslot x, ev τ y = ev τ' y) (d m : Nat) : bnd τ x d m = bnd τ' x d m := by
  cases x with
  | none => rfl
  | some y =>
    show (ev τ y).asInt none _ = (ev τ' y).asInt none _
    rw [h y (by simp [oslot])]
/-- An operation looks at its operands alone. -/
theorem AO.run_congr {τ τ' : Fr} (o : AO) (h : ∀ x ∈ o.args, ev τ x = ev τ' x) (base : Id) (σ : H) : o.run base τ σ = o.run base τ' σ := by
  have b : ∀ {x : Option AX}, (∀ y ∈ oslot x, ev τ y = ev τ' y) → bnd τ x = bnd τ' x := fun hx => funext fun d => funext fun m => bnd_congr hx d m
  cases o with
  | mv x => show hMv x base τ σ = hMv x base τ' σ; unfold hMv; rw [h x (by simp [AO.args])]
  | pick c x y => show hPick c x y base τ σ = hPick c x y base τ' σ; unfold hPick; rw [h c (by simp [AO.args]), h x (by simp [AO.args]), h y (by simp [AO.args])]
  | box r x => show hBox r x base τ σ = hBox r x base τ' σ; unfold hBox; rw [h x (by simp [AO.args])]
  | build z ps => show hBuild z ps base τ σ = hBuild z ps base τ' σ; unfold hBuild; rw [fillP_congr h]
  | buildS r e n z ps => show hBuildS r e n z ps base τ σ = hBuildS r e n z ps base τ' σ; unfold hBuildS; rw [fillP_congr h]
  | load n x => show hLoad n x base τ σ = hLoad n x base τ' σ; unfold hLoad; rw [h x (by simp [AO.args])]
  | store n p x => show hStore n p x base τ σ = hStore n p x base τ' σ; unfold hStore; rw [h p (by simp [AO.args]), h x (by simp [AO.args])]
  | nilck x => show hNilck x base τ σ = hNilck x base τ' σ; unfold hNilck; rw [h x (by simp [AO.args])]
  | bin op x y => show hBin op x y base τ σ = hBin op x y base τ' σ; unfold hBin; rw [h x (by simp [AO.args]), h y (by simp [AO.args])]
  | eq g c x y => show hEq g c x y base τ σ = hEq g c x y base τ' σ; unfold hEq; rw [h x (by simp [AO.args]), h y (by simp [AO.args])]
  | un op x => show hUn op x base τ σ = hUn op x base τ' σ; unfold hUn; rw [h x (by simp [AO.args])]
  | convI k x => show hConvI k x base τ σ = hConvI k x base τ' σ; unfold hConvI; rw [h x (by simp [AO.args])]
  | convSS x => show hConvSS x base τ σ = hConvSS x base τ' σ; unfold hConvSS; rw [h x (by simp [AO.args])]
  | convSB x => show hConvSB x base τ σ = hConvSB x base τ' σ; unfold hConvSB; rw [h x (by simp [AO.args])]
  | convBS x => show hConvBS x base τ σ = hConvBS x base τ' σ; unfold hConvBS; rw [h x (by simp [AO.args])]
  | mkif t x => show hMkif t x base τ σ = hMkif t x base τ' σ; unfold hMkif; rw [h x (by simp [AO.args])]
  | mkfn f xs ys => show hMkfn f xs ys base τ σ = hMkfn f xs ys base τ' σ; unfold hMkfn; rw [evs_congr (l := xs) fun x hx => h x (by simp [AO.args, hx]), evs_congr (l := ys) fun x hx => h x (by simp [AO.args, hx])]
  | field o n x => show hField o n x base τ σ = hField o n x base τ' σ; unfold hField; rw [h x (by simp [AO.args])]
  | fieldA o x => show hFieldA o x base τ σ = hFieldA o x base τ' σ; unfold hFieldA; rw [h x (by simp [AO.args])]
  | idxA r e x i => show hIdxA r e x i base τ σ = hIdxA r e x i base τ' σ; unfold hIdxA; rw [h x (by simp [AO.args]), h i (by simp [AO.args])]
  | idxV l e n x i => show hIdxV l e n x i base τ σ = hIdxV l e n x i base τ' σ; unfold hIdxV; rw [h x (by simp [AO.args]), h i (by simp [AO.args])]
  | idxS x i => show hIdxS x i base τ σ = hIdxS x i base τ' σ; unfold hIdxS; rw [h x (by simp [AO.args]), h i (by simp [AO.args])]
  | sliS x lo hi => show hSliS x lo hi base τ σ = hSliS x lo hi base τ' σ; unfold hSliS; rw [h x (by simp [AO.args]), b (x := lo) fun y hy => h y (by simp [AO.args, hy]), b (x := hi) fun y hy => h y (by simp [AO.args, hy])]
  | sliL e x lo hi mx =>
    show hSliL e x lo hi mx base τ σ = hSliL e x lo hi mx base τ' σ; unfold hSliL hSli; rw [h x (by simp [AO.args]), b (x := lo) fun y hy => h y (by simp [AO.args, hy]), b (x := hi) fun y hy => h y (by simp [AO.args, hy]), b (x := mx) fun y hy => h y (by simp [AO.args, hy])]
  | sliA n e x lo hi mx =>
    show hSliA n e x lo hi mx base τ σ = hSliA n e x lo hi mx base τ' σ; unfold hSliA hSli; rw [h x (by simp [AO.args]), b (x := lo) fun y hy => h y (by simp [AO.args, hy]), b (x := hi) fun y hy => h y (by simp [AO.args, hy]), b (x := mx) fun y hy => h y (by simp [AO.args, hy])]
  | ext x i => show hExt x i base τ σ = hExt x i base τ' σ; unfold hExt; rw [h x (by simp [AO.args])]
  | lenK n x => rfl
  | len k x => show hLen k x base τ σ = hLen k x base τ' σ; unfold hLen; rw [h x (by simp [AO.args])]
  | capS x => show hCapS x base τ σ = hCapS x base τ' σ; unfold hCapS; rw [h x (by simp [AO.args])]
  | app e q s x => show hApp e q s x base τ σ = hApp e q s x base τ' σ; unfold hApp; rw [h s (by simp [AO.args]), h x (by simp [AO.args])]
  | copy e d s => show hCopy e d s base τ σ = hCopy e d s base τ' σ; unfold hCopy; rw [h d (by simp [AO.args]), h s (by simp [AO.args])]
  | min2 x y => show hMin x y base τ σ = hMin x y base τ' σ; unfold hMin; rw [h x (by simp [AO.args]), h y (by simp [AO.args])]
  | max2 x y => show hMax x y base τ σ = hMax x y base τ' σ; unfold hMax; rw [h x (by simp [AO.args]), h y (by simp [AO.args])]
  | mkS e q z l c => show hMkS e q z l c base τ σ = hMkS e q z l c base τ' σ; unfold hMkS; rw [h l (by simp [AO.args]), h c (by simp [AO.args])]
  | mkM kt => rfl
  | look kt z ok x i => show hLook kt z ok x i base τ σ = hLook kt z ok x i base τ' σ; unfold hLook; rw [h x (by simp [AO.args]), h i (by simp [AO.args])]
  | upd kt m i x => show hUpd kt m i x base τ σ = hUpd kt m i x base τ' σ; unfold hUpd; rw [h m (by simp [AO.args]), h i (by simp [AO.args]), h x (by simp [AO.args])]
  | rangeS x => show hRangeS x base τ σ = hRangeS x base τ' σ; unfold hRangeS; rw [h x (by simp [AO.args])]
  | nextS x => show hNextS x base τ σ = hNextS x base τ' σ; unfold hNextS; rw [h x (by simp [AO.args])]
  | callF k xs => show hCallF k xs base τ σ = hCallF k xs base τ' σ; unfold hCallF; rw [evs_congr (l := xs) fun x hx => h x (by simp [AO.args, hx])]
  | callV x xs => show hCallV x xs base τ σ = hCallV x xs base τ' σ; unfold hCallV; rw [h x (by simp [AO.args]), evs_congr (l := xs) fun x hx => h x (by simp [AO.args, hx])]
  | ghost g x => rfl
theorem AR.step_congr {τ τ' : Fr} (cf : I3 → List AV → H → Option (AV × H)) (r : AR) (h : ∀ i ∈ r.slots, get3 i τ = get3 i τ') (base : Id) (σ : H) : r.step cf base τ σ = r.step cf base τ' σ := by
  have hw : want r.guard τ = want r.guard τ' := by
    cases hg : r.guard with
    | none => rfl
    | some p =>
      obtain ⟨i, b⟩ := p
      show (get3 i τ).asBool false _ = (get3 i τ').asBool false _
      rw [h i (by simp [AR.slots, hg])]
  have ho : r.op.run base τ σ = r.op.run base τ' σ := AO.run_congr r.op (fun x hx => by
    cases x with
    | t i => exact h i (by simp only [AR.slots, List.mem_append, List.mem_flatMap]; exact .inr ⟨.t i, hx, by simp [AX.slot]⟩)
    | c v => rfl) base σ
  unfold AR.step
  rw [hw, ho]
/-- Only blocks that are made under kept numbers hang on where these begin. -/
theorem AO.run_base {o : AO} (h : o.kd ≠ .float) (base base' : Id) (τ : Fr) (σ : H) : o.run base τ σ = o.run base' τ σ := by
  cases o with
  | box r x => cases r with | none => rfl | some j => exact absurd rfl h
  | buildS r e n z ps => cases r with | none => rfl | some j => exact absurd rfl h
  | _ => rfl
theorem AR.step_base (cf : I3 → List AV → H → Option (AV × H)) {r : AR} (h : r.op.kd ≠ .float) (base base' : Id) (τ : Fr) (σ : H) : r.step cf base τ σ = r.step cf base' τ σ := by
  unfold AR.step
  rw [AO.run_base h base base']
theorem float_run {o : AO} (h : o.kd = .float) {v : AV} {σ1 : H} (hr : o.run base τ σ = .ok v σ1) : ∃ j b x, o.rsv = some j ∧ base.plus j = some b ∧ σ1 = σ.put b (some x) ∧ ∀ σ2, o.run base τ σ2 = .ok v (σ2.put b (some x)) := by
  have newB_eq : ∀ {j : Nat} {x : Blk} {k : Id → AV} {v : AV} {σ1 : H}, newB (some j) base x k σ = .ok v σ1 → ∃ b, base.plus j = some b ∧ v = k b ∧ σ1 = σ.put b (some x) ∧ ∀ σ2, newB (some j) base x k σ2 = .ok (k b) (σ2.put b (some x)) := by
    intro j x k v σ1 hr
    change Option.rec (motive := fun _ => OR) .no (fun b => .ok (k b) (σ.put b (some x))) (base.plus j) = .ok v σ1 at hr
    cases hb : base.plus j with
    | none => rw [hb] at hr; cases hr
    | some b =>
      rw [hb] at hr
      cases hr
      refine ⟨b, rfl, rfl, rfl, fun σ2 => ?_⟩
      show Option.rec (motive := fun _ => OR) .no (fun b => .ok (k b) (σ2.put b (some x))) (base.plus j) = _
      rw [hb]
  cases o <;> try (cases h; done)
  · rename_i r x
    cases r with
    | none => cases h
    | some j =>
      change (ev τ x).asCells .no (fun l => newB (some j) base (cellsB l) (fun b => .ptr b 0) σ) = .ok v σ1 at hr
      have key : ∃ l, newB (some j) base (cellsB l) (fun b => .ptr b 0) σ = .ok v σ1 ∧ ∀ σ2, hBox (some j) x base τ σ2 = newB (some j) base (cellsB l) (fun b => .ptr b 0) σ2 := by
        unfold hBox
        cases hx : ev τ x <;> rw [hx] at hr <;> first | cases hr; done | exact ⟨_, hr, fun _ => rfl⟩
      obtain ⟨l, h1, h2⟩ := key
      obtain ⟨b, h3, h4, h5, h6⟩ := newB_eq h1
      exact ⟨j, b, _, rfl, h3, h5, fun σ2 => by show hBox (some j) x base τ σ2 = _; rw [h2, h6, h4]⟩
  · rename_i r e n z ps
    cases r with
    | none => cases h
    | some j =>
      change Option.rec (motive := fun _ => OR) .no (fun l => newB (some j) base (cellsB l) (fun b => .slice b 0 n e (some n)) σ) (fillP τ ps z) = .ok v σ1 at hr
      cases hf : fillP τ ps z with
      | none => rw [hf] at hr; cases hr
      | some l =>
        rw [hf] at hr
        obtain ⟨b, h3, h4, h5, h6⟩ := newB_eq (k := fun b => .slice b 0 n e (some n)) hr
        refine ⟨j, b, _, rfl, h3, h5, fun σ2 => ?_⟩
        show Option.rec (motive := fun _ => OR) .no (fun l => newB (some j) base (cellsB l) (fun b => .slice b 0 n e (some n)) σ2) (fillP τ ps z) = _
        rw [hf]
        exact (h6 σ2).trans (by rw [h4])
theorem okq {σ σ1 : H} {o : Option AV} {v : AV} (h : ok? σ o = .ok v σ1) : σ1 = σ ∧ o = some v := by
  cases o with
  | none => cases h
  | some x => cases h; exact ⟨rfl, rfl⟩
def Thr (f : H → OR) : Prop := ∃ x : Option AV, ∀ σ, f σ = ok? σ x
theorem Thr.no : Thr fun _ => .no := ⟨none, fun _ => rfl⟩
theorem Thr.ok (v : AV) : Thr fun σ => .ok v σ := ⟨some v, fun _ => rfl⟩
theorem Thr.okq (x : Option AV) : Thr fun σ => ok? σ x := ⟨x, fun _ => rfl⟩
theorem Thr.opt {α : Type} (o : Option α) {f : α → H → OR} (h : ∀ a, Thr (f a)) : Thr fun σ => Option.rec (motive := fun _ => OR) .no (fun a => f a σ) o := by
  cases o with
  | none => exact .no
  | some a => exact h a
theorem Thr.ite8 (c : Bool) {f g : H → OR} (h : Thr f) (k : Thr g) : Thr fun σ => ite8 c (f σ) (g σ) := by cases c; exact k; exact h
theorem Thr.ite (c : Prop) [Decidable c] {f g : H → OR} (h : Thr f) (k : Thr g) : Thr fun σ => if c then f σ else g σ := by
  by_cases hc : c
  · simpa only [if_pos hc] using h
  · simpa only [if_neg hc] using k
theorem Thr.asInt (v : AV) {f : IntKind → Int → H → OR} (h : ∀ k n, Thr (f k n)) : Thr fun σ => v.asInt .no fun k n => f k n σ := by
  cases v <;> first | exact .no | exact h _ _
theorem Thr.asStr (v : AV) {f : List Nat → H → OR} (h : ∀ l, Thr (f l)) : Thr fun σ => v.asStr .no fun l => f l σ := by
  cases v <;> first | exact .no | exact h _
theorem Thr.asBool (v : AV) {f : Bool → H → OR} (h : ∀ l, Thr (f l)) : Thr fun σ => v.asBool .no fun l => f l σ := by
  cases v <;> first | exact .no | exact h _
theorem Thr.asPtr (v : AV) {f : Id → Nat → H → OR} (h : ∀ b o, Thr (f b o)) : Thr fun σ => v.asPtr .no fun b o => f b o σ := by
  cases v <;> first | exact .no | exact h _ _
theorem Thr.below (v : AV) (n : Nat) {f : Nat → H → OR} (h : ∀ k, Thr (f k)) : Thr fun σ => below v n fun k => f k σ := by
  refine .asInt v fun k i => ?_
  cases i with
  | ofNat a => exact .ite8 _ (h a) .no
  | negSucc a => exact .no
theorem Thr.sli (b : Id) (o n c es : Nat) (e : Bool) (lo hi mx : Option AX) (τ : Fr) : Thr fun σ => hSli b o n c es e lo hi mx τ σ := by
  unfold hSli
  cases bnd τ mx c c with
  | none => exact .no
  | some m =>
    simp only
    cases bnd τ hi n m with
    | none => exact .no
    | some h =>
      simp only
      cases bnd τ lo 0 h with
      | none => exact .no
      | some l =>
        simp only
        exact .ite _ (.ite _ (.ok _) .no) (.ok _)
theorem pure_form {o : AO} (h : o.kd = .pure) : Thr fun σ => o.run base τ σ := by
  cases o with
  | mv x => exact .ok _
  | pick c x y => exact .asBool _ fun t => .ok _
  | box r x => cases r <;> cases h
  | build z ps => exact .opt (fillP τ ps z) fun l => .ok _
  | buildS r e n z ps => cases r <;> cases h
  | load n x => cases h
  | store n p x => cases h
  | nilck x => exact .asPtr _ fun b o => .ok _
  | bin op x y => exact .okq _
  | eq g c x y => exact .opt (eqv c (ev τ x) (ev τ y)) fun e => .ok _
  | un op x =>
    show Thr fun σ => hUn op x base τ σ
    unfold hUn
    cases op <;> cases ev τ x <;> first | exact .no | exact .ok _
  | convI k x => exact .asInt _ fun _ n => .ok _
  | convSS x => exact .asStr _ fun l => .ok _
  | convSB x => cases h
  | convBS x => cases h
  | mkif t x => exact .ok _
  | mkfn f xs ys => exact .ok _
  | field o n x =>
    show Thr fun σ => hField o n x base τ σ
    unfold hField
    cases ev τ x <;> first | exact .no | exact .okq _
  | fieldA o x => exact .asPtr _ fun b q => .ok _
  | idxA r e x i =>
    show Thr fun σ => hIdxA r e x i base τ σ
    unfold hIdxA
    cases r with
    | none => cases ev τ x <;> first | exact .no | exact .below _ _ fun k => .ok _
    | some n => exact .asPtr _ fun b q => .below _ _ fun k => .ok _
  | idxV l e n x i =>
    show Thr fun σ => hIdxV l e n x i base τ σ
    unfold hIdxV
    cases ev τ x <;> first | exact .no | exact .below _ _ fun k => .okq _
  | idxS x i =>
    refine .asStr _ fun l => .asInt _ fun _ j => ?_
    cases j with
    | ofNat a => exact .opt (nth8 l a) fun c => .ok _
    | negSucc a => exact .no
  | sliS x lo hi =>
    refine .asStr _ fun l => ?_
    cases bnd τ hi (len8 l) (len8 l) with
    | none => exact .no
    | some h =>
      simp only
      cases bnd τ lo 0 h with
      | none => exact .no
      | some k =>
        simp only
        cases take8 (h - k) (drop8 k l) with
        | none => exact .no
        | some r => exact .ok _
  | sliL e x lo hi mx =>
    show Thr fun σ => hSliL e x lo hi mx base τ σ
    unfold hSliL
    cases ev τ x <;> try exact .no
    · rename_i b o n es c
      cases c with
      | some c =>
        simp only
        exact .ite _ (.sli ..) .no
      | none =>
        simp only
        exact .ite _ (.sli ..) .no
    · simp only
      cases bnd τ mx 0 0 <;> cases bnd τ hi 0 0 <;> cases bnd τ lo 0 0 <;> first | exact .no | exact .ok _
  | sliA n e x lo hi mx =>
    show Thr fun σ => hSliA n e x lo hi mx base τ σ
    unfold hSliA
    cases ev τ x <;> first | exact .no | exact .sli ..
  | ext x i =>
    show Thr fun σ => hExt x i base τ σ
    unfold hExt
    split <;> first | exact .no | exact .okq _
  | lenK n x => exact .ok _
  | len k x => cases h
  | capS x =>
    show Thr fun σ => hCapS x base τ σ
    unfold hCapS
    cases ev τ x <;> first | exact .no | exact .ok _ | (rename_i c; cases c <;> first | exact .no | exact .ok _)
  | app e q s x => cases h
  | copy e d s => cases h
  | min2 x y => exact .asInt _ fun k a => .asInt _ fun _ b => .ok _
  | max2 x y => exact .asInt _ fun k a => .asInt _ fun _ b => .ok _
  | mkS e q z l c => cases h
  | mkM kt => cases h
  | look kt z ok x i => cases h
  | upd kt m i x => cases h
  | rangeS x => cases h
  | nextS x => cases h
  | callF k xs => cases h
  | callV x xs => cases h
  | ghost g x => cases h
theorem pure_run {o : AO} (h : o.kd = .pure) {r : OR} (hr : o.run base τ σ = r) (hne : r ≠ .no) : ∃ v, r = .ok v σ ∧ ∀ σ2, o.run base τ σ2 = .ok v σ2 := by
  obtain ⟨x, hx⟩ := pure_form (base := base) (τ := τ) h
  have hx : ∀ σ, o.run base τ σ = ok? σ x := hx
  rw [hx] at hr
  cases x with
  | none => exact absurd hr.symm hne
  | some v => exact ⟨v, hr.symm, fun σ2 => hx σ2⟩
/-- What reads leaves memory as it is, and calls nothing. -/
theorem read_run {o : AO} (h : o.kd = .read) {r : OR} (hr : o.run base τ σ = r) (hne : r ≠ .no) : ∃ v, r = .ok v σ := by
  have fin : ∀ {x : Option AV}, ok? σ x = r → ∃ v, r = .ok v σ := fun {x} hx => by
    cases x with
    | none => exact absurd hx.symm hne
    | some v => exact ⟨v, hx.symm⟩
  cases o <;> try (cases h; done)
  · rename_i r x; cases r <;> cases h
  · rename_i r e n z ps; cases r <;> cases h
  · rename_i n x
    change hLoad n x base τ σ = r at hr
    unfold hLoad at hr
    cases hx : ev τ x <;> rw [hx] at hr <;> try exact absurd hr.symm hne
    rename_i b off
    obtain ⟨t, k, _, h2⟩ := H.row_eq hr hne
    cases n with
    | none => exact fin h2
    | some n =>
      change Option.rec (motive := fun _ => OR) .no (fun l => .ok (.agg l) σ) (t.take n off) = r at h2
      cases hq : t.take n off with
      | none => rw [hq] at h2; exact absurd h2.symm hne
      | some l => rw [hq] at h2; exact ⟨_, h2.symm⟩
  · rename_i x
    change hConvBS x base τ σ = r at hr
    unfold hConvBS at hr
    cases hx : ev τ x <;> rw [hx] at hr <;> try exact absurd hr.symm hne
    · rename_i b off n es c
      obtain ⟨t, k, _, h2⟩ := H.row_eq hr hne
      cases hq : t.take n off with
      | none => rw [hq] at h2; exact absurd h2.symm hne
      | some l =>
        rw [hq] at h2
        simp only at h2
        cases hb : bytesOf l with
        | none => rw [hb] at h2; exact absurd h2.symm hne
        | some s => rw [hb] at h2; exact ⟨_, h2.symm⟩
    · exact ⟨_, hr.symm⟩
  · rename_i k x
    change hLen k x base τ σ = r at hr
    unfold hLen at hr
    cases k
    · change (ev τ x).asStr .no _ = r at hr
      cases hx : ev τ x <;> rw [hx] at hr <;> first | exact absurd hr.symm hne | exact ⟨_, hr.symm⟩
    · simp only at hr
      cases hx : ev τ x <;> rw [hx] at hr <;> first | exact absurd hr.symm hne | exact ⟨_, hr.symm⟩
    · simp only at hr
      cases hx : ev τ x <;> rw [hx] at hr <;> try exact absurd hr.symm hne
      · rename_i b
        simp only at hr
        cases hb : σ.blk b with
        | none => rw [hb] at hr; exact absurd hr.symm hne
        | some blk => rw [hb] at hr; cases blk <;> first | exact absurd hr.symm hne | exact ⟨_, hr.symm⟩
      · exact ⟨_, hr.symm⟩
  · rename_i kt z ok x i
    change hLook kt z ok x i base τ σ = r at hr
    unfold hLook at hr
    cases hk : keyEq kt (ev τ i) (ev τ i) with
    | none => rw [hk] at hr; exact absurd hr.symm hne
    | some e =>
      rw [hk] at hr
      cases e with
      | false => exact absurd hr.symm hne
      | true =>
        simp only at hr
        cases hx : ev τ x <;> rw [hx] at hr <;> try exact absurd hr.symm hne
        · rename_i b
          simp only at hr
          cases hb : σ.blk b with
          | none => rw [hb] at hr; exact absurd hr.symm hne
          | some blk =>
            rw [hb] at hr
            cases blk <;> try exact absurd hr.symm hne
            rename_i kt' l
            simp only at hr
            by_cases hkt : kt ≠ kt'
            · rw [if_pos hkt] at hr; exact absurd hr.symm hne
            · rw [if_neg hkt] at hr
              cases hat : keyAt kt (ev τ i) l with
              | none => rw [hat] at hr; exact absurd hr.symm hne
              | some o => rw [hat] at hr; cases o <;> exact ⟨_, hr.symm⟩
        · exact ⟨_, hr.symm⟩
end
end Go.Dk
namespace Go.Dk
open Go
variable [Keep]
section
variable {P : Program} {N : Nat} {φ : Emb} {σ : H} {w : World} {τ : Fr} {a : Act} {base : Id}

/-! One operation comes to an end in some world: for what is known of the order of the text -/
theorem step_E {cf : I3 → List AV → H → Option (AV × H)} (hcf : CallR P cf) {ops : Array Oper} {o : Oper} {rsv : Option Nat} {ar : AR} (h : arOf P N ops rsv o = some ar) (hT : TR φ N τ a) (hH : HR φ σ w) {m : Id → Prop} (hr : RsvOk m φ σ base rsv) (hm : ∀ b, σ.n.num ≤ b.num → m b)
    {v : AV} {σ' : H} (hs : ar.step cf base τ σ = some (v, σ')) : ∃ φ' v' w', VR φ' v v' ∧ HR φ' σ' w' ∧ Fm m φ σ w φ' σ' w' := by
  obtain ⟨hw, hop, _, _⟩ := want_R hT h
  unfold AR.step at hs
  cases hwt : want ar.guard τ with
  | false => rw [hwt] at hs; cases hs; exact ⟨φ, undef, w, uvR φ, hH, Fm.refl _ _ _ _⟩
  | true =>
    rw [hwt] at hs
    simp only at hs
    have hR := op_R (P := P) hT hH hr hop
    cases hrun : ar.op.run base τ σ with
    | no => rw [hrun] at hs; cases hs
    | ok v1 σ1 =>
      rw [hrun] at hs hR
      cases hs
      obtain ⟨φ', v', w', _, h1, h2, h3⟩ := hR
      exact ⟨φ', v', w', h1, h2, h3⟩
    | call k args =>
      rw [hrun] at hs hR
      simp only at hs
      obtain ⟨hok, hc⟩ := hcf k args σ v σ' hs
      obtain ⟨args', _, hv⟩ := hR hok
      obtain ⟨e, w', fr, ⟨φ', v', _, h1, h2, h3⟩, _⟩ := hc φ w args' hT.glob hH hv []
      exact ⟨φ', v', w', h1, h2, h3.weaken hm⟩
/-- The same of what makes no block under a kept number: the numbers below are left alone. -/
theorem step_R' {cf : I3 → List AV → H → Option (AV × H)} (hcf : CallR P cf) {ops : Array Oper} {o : Oper} {ar : AR} {rsv : Option Nat} (hrs : rsv = none) (h : arOf P N ops rsv o = some ar) (hkd : ar.op.kd ≠ .float) (hT : TR φ N τ a) (hH : HR φ σ w)
    {v : AV} {σ' : H} (hs : ar.step cf base τ σ = some (v, σ')) {K : Act → World → Prop} {Q : Exit → Act → World → Prop}
    (hK : ∀ φ' v' w', VR φ' v v' → HR φ' σ' w' → Fm (From σ.n.num) φ σ w φ' σ' w' → K (a.put o.dst v') w') :
    if Region.wanted o (yielded ops a.tmps) then o.wp P a w K Q else K (a.put o.dst undef) w := by
  subst hrs
  rw [AR.step_base cf hkd base σ.n] at hs
  exact step_R (base := σ.n) (m := From σ.n.num) hcf h hT hH ⟨Nat.le_refl _, fun j hj => by cases hj⟩ (fun _ h => h) hs hK
theorem step_E' {cf : I3 → List AV → H → Option (AV × H)} (hcf : CallR P cf) {ops : Array Oper} {o : Oper} {ar : AR} {rsv : Option Nat} (hrs : rsv = none) (h : arOf P N ops rsv o = some ar) (hkd : ar.op.kd ≠ .float) (hT : TR φ N τ a) (hH : HR φ σ w)
    {v : AV} {σ' : H} (hs : ar.step cf base τ σ = some (v, σ')) : ∃ φ' v' w', VR φ' v v' ∧ HR φ' σ' w' ∧ Fm (From σ.n.num) φ σ w φ' σ' w' := by
  subst hrs
  rw [AR.step_base cf hkd base σ.n] at hs
  exact step_E (base := σ.n) (m := From σ.n.num) hcf h hT hH ⟨Nat.le_refl _, fun j hj => by cases hj⟩ (fun _ h => h) hs

/-! Blocks put beside -/
noncomputable def puts (L : List (Id × Blk)) (σ : H) : H := L.foldl (fun σ p => σ.put p.1 (some p.2)) σ
theorem puts_n (L : List (Id × Blk)) : ∀ σ, (puts L σ).n = σ.n := by
  induction L with
  | nil => intro σ; rfl
  | cons p L ih => intro σ; show (puts L (σ.put p.1 (some p.2))).n = _; rw [ih]; rfl
theorem puts_notin {b : Id} : ∀ {L : List (Id × Blk)} {σ : H}, (∀ p ∈ L, p.1 ≠ b) → (puts L σ).blk b = σ.blk b := by
  intro L
  induction L with
  | nil => intro σ _; rfl
  | cons p L ih =>
    intro σ h
    show (puts L (σ.put p.1 (some p.2))).blk b = _
    rw [ih fun q hq => h q (by simp [hq]), H.blk_put, if_neg (h p (by simp))]
theorem puts_in {b : Id} : ∀ {L : List (Id × Blk)} {σ σ2 : H}, (∃ p ∈ L, p.1 = b) → (puts L σ).blk b = (puts L σ2).blk b ∧ ∃ x, (puts L σ).blk b = some x := by
  intro L
  induction L with
  | nil => intro σ σ2 ⟨p, hp, _⟩; simp at hp
  | cons p L ih =>
    intro σ σ2 h
    show (puts L (σ.put p.1 (some p.2))).blk b = (puts L (σ2.put p.1 (some p.2))).blk b ∧ ∃ x, (puts L (σ.put p.1 (some p.2))).blk b = some x
    by_cases hL : ∃ q ∈ L, q.1 = b
    · exact ih hL
    · have hno : ∀ q ∈ L, q.1 ≠ b := fun q hq e => hL ⟨q, hq, e⟩
      obtain ⟨q, hq, hqb⟩ := h
      have hpb : p.1 = b := by
        rcases List.mem_cons.1 hq with rfl | hq
        · exact hqb
        · exact absurd hqb (hno q hq)
      rw [puts_notin hno, puts_notin hno, H.blk_put, H.blk_put, if_pos hpb, if_pos hpb]
      exact ⟨rfl, _, rfl⟩
theorem HR.congr {φ : Emb} {σ σ2 : H} {w : World} (h : HR φ σ w) (hn : σ2.n.num = σ.n.num) (hb : ∀ b, σ2.blk b = σ.blk b) : HR φ σ2 w :=
  ⟨fun i hi => h.fresh i (by omega), fun b x hx => h.blk b x (by rw [← hb]; exact hx), fun b b' x x' c z z' h1 h2 => h.inj b b' x x' c z z' (by rw [← hb]; exact h1) (by rw [← hb]; exact h2), fun k o hk => ⟨(h.keep k o hk).1, fun b x z h1 => (h.keep k o hk).2 b x z (by rw [← hb]; exact h1)⟩⟩
theorem HR.sub {φ : Emb} {σ σ2 : H} {w : World} (h : HR φ σ w) (hn : σ2.n.num = σ.n.num) (hb : ∀ b x, σ2.blk b = some x → σ.blk b = some x) : HR φ σ2 w :=
  ⟨fun i hi => h.fresh i (by omega), fun b x hx => h.blk b x (hb b x hx), fun b b' x x' c z z' h1 h2 => h.inj b b' x x' c z z' (hb b x h1) (hb b' x' h2), fun k o hk => ⟨(h.keep k o hk).1, fun b x z h1 => (h.keep k o hk).2 b x z (hb b x h1)⟩⟩
/-- Without the blocks beside. -/
theorem HR.without {L : List (Id × Blk)} (h : HR φ (puts L σ) w) (hL : ∀ p ∈ L, σ.blk p.1 = none) : HR φ σ w :=
  h.sub (by rw [puts_n]) fun b x hx => by rw [puts_notin fun p hp e => by rw [← e, hL p hp] at hx; cases hx]; exact hx
/-- With them again. -/
theorem HR.again {L : List (Id × Blk)} {φ' : Emb} {σ' : H} {w' : World} (h : HR φ (puts L σ) w) (hL : ∀ p ∈ L, σ.blk p.1 = none) (h' : HR φ' σ' w') (hF : Fm (From σ.n.num) φ σ w φ' σ' w') (hL' : ∀ p ∈ L, σ'.blk p.1 = none) :
    HR φ' (puts L σ') w' ∧ Fm (From σ.n.num) φ (puts L σ) w φ' (puts L σ') w' := by
  have beside : ∀ b x, (∃ p ∈ L, p.1 = b) → (puts L σ').blk b = some x → (puts L σ).blk b = some x := fun b x hb hx => by rw [(puts_in (σ2 := σ') hb).1]; exact hx
  have old : ∀ b x, ¬ (∃ p ∈ L, p.1 = b) → (puts L σ').blk b = some x → σ'.blk b = some x := fun b x hb hx => by rw [puts_notin fun p hp e => hb ⟨p, hp, e⟩] at hx; exact hx
  have old0 : ∀ b x, σ.blk b = some x → (puts L σ).blk b = some x := fun b x hx => by rw [puts_notin fun p hp e => by rw [← e, hL p hp] at hx; cases hx]; exact hx
  -- a block beside: where it lies, and that nothing has turned it
  have lies : ∀ b x, (∃ p ∈ L, p.1 = b) → (puts L σ').blk b = some x → ∃ c z, φ b = some (c, z) ∧ φ' b = some (c, z) ∧ BR φ x c z w ∧ w'.heap[c]? = w.heap[c]? := fun b x hb hx => by
    have hx0 := beside b x hb hx
    obtain ⟨c, z, h1, h2⟩ := h.blk b x hx0
    refine ⟨c, z, h1, hF.ext _ _ h1, h2, hF.kept c h2.lt fun b0 x0 c0 z0 h3 h4 e => ?_⟩
    subst e
    have := h.inj b b0 x x0 _ z z0 hx0 (old0 b0 x0 h3) h1 h4
    subst this
    obtain ⟨p, hp, e⟩ := hb
    rw [← e, hL p hp] at h3; cases h3
  refine ⟨⟨fun i hi => h'.fresh i (by rw [puts_n] at hi; exact hi), fun b x hx => ?_, fun b b' x x' c z z' hx hx' hc hc' => ?_, fun k o hk => ⟨(h'.keep k o hk).1, fun b x z hx hc => ?_⟩⟩, ⟨hF.ext, hF.os, hF.tape, hF.output, hF.size, fun k hk hno => ?_, fun b x c z hx hc hlt => ?_, hF.old, by rw [puts_n, puts_n]; exact hF.n⟩⟩
  · by_cases hb : ∃ p ∈ L, p.1 = b
    · obtain ⟨c, z, h1, h2, h3, h4⟩ := lies b x hb hx
      exact ⟨c, z, h2, h3.mono hF.ext h4⟩
    · exact h'.blk b x (old b x hb hx)
  · have mixed : ∀ b b' x x' z z', (∃ p ∈ L, p.1 = b) → ¬ (∃ p ∈ L, p.1 = b') → (puts L σ').blk b = some x → (puts L σ').blk b' = some x' → φ' b = some (c, z) → φ' b' = some (c, z') → False := by
      intro b b' x x' z z' hb hb' hx hx' hc hc'
      obtain ⟨c1, z1, h1, h2, h3, h4⟩ := lies b x hb hx
      rw [hc] at h2; cases h2
      obtain ⟨b0, x0, z0, h5, h6⟩ := hF.img b' x' c z' (old b' x' hb' hx') hc' h3.lt
      have := h.inj b b0 x x0 c _ z0 (beside b x hb hx) (old0 b0 x0 h5) h1 h6
      subst this
      obtain ⟨p, hp, e⟩ := hb
      rw [← e, hL p hp] at h5; cases h5
    by_cases hb : ∃ p ∈ L, p.1 = b <;> by_cases hb' : ∃ p ∈ L, p.1 = b'
    · obtain ⟨c1, z1, h1, h2, _, _⟩ := lies b x hb hx
      obtain ⟨c2, z2, h3, h4, _, _⟩ := lies b' x' hb' hx'
      rw [hc] at h2; cases h2
      rw [hc'] at h4; cases h4
      exact h.inj b b' x x' c _ _ (beside b x hb hx) (beside b' x' hb' hx') h1 h3
    · exact (mixed b b' x x' z z' hb hb' hx hx' hc hc').elim
    · exact (mixed b' b x' x z' z hb' hb hx' hx hc' hc).elim
    · exact h'.inj b b' x x' c z z' (old b x hb hx) (old b' x' hb' hx') hc hc'
  · by_cases hb : ∃ p ∈ L, p.1 = b
    · obtain ⟨c1, z1, h1, h2, _, _⟩ := lies b x hb hx
      rw [hc] at h2; cases h2
      exact (h.keep k o hk).2 b x _ (beside b x hb hx) h1
    · exact (h'.keep k o hk).2 b x z (old b x hb hx) hc
  · exact hF.kept k hk fun b x c z h1 h2 => hno b x c z (old0 b x h1) h2
  · by_cases hb : ∃ p ∈ L, p.1 = b
    · obtain ⟨c1, z1, h1, h2, _, _⟩ := lies b x hb hx
      rw [hc] at h2; cases h2
      exact ⟨b, x, _, beside b x hb hx, h1⟩
    · obtain ⟨b0, x0, z0, h5, h6⟩ := hF.img b x c z (old b x hb hx) hc hlt
      exact ⟨b0, x0, z0, old0 b0 x0 h5, h6⟩
end
end Go.Dk
namespace Go.Dk
open Go
variable [Keep]
noncomputable section
def putO (o : Option (Id × Blk)) (σ : H) : H := match o with | some (b, x) => σ.put b (some x) | none => σ
structure Row where
  cf : I3 → List AV → H → Option (AV × H)
  base : Id
  n : Nat
  O : Nat → AR
  T : Nat → Fr
  M : Nat → H
  V : Nat → AV
  fb : Nat → Option (Id × Blk)
  pr : Nat → List Nat
namespace Row
variable (R : Row)
def chain (i : Nat) : Prop := (R.O i).op.kd = .chain
def eff (i : Nat) : Prop := (R.O i).op.kd = .chain ∨ (R.O i).op.kd = .float
def tl (R : Row) (S : Nat → Bool) (q d : Nat) : List (Id × Blk) := Nat.rec (motive := fun _ => List (Id × Blk)) [] (fun d ih => ih ++ (if S (q + d) then (R.fb (q + d)).toList else [])) d
/-- What an operation leans on. -/
def leans (i j : Nat) : Bool := (R.pr i).contains j
/-- The memory in which a reading operation is asked again: where just what it leans on has been. -/
def Z (i q : Nat) : H := puts (tl R (R.leans i) q (R.n - q)) (R.M q)
structure Ok : Prop where
  step : ∀ i, i < R.n → (R.O i).step R.cf R.base (R.T i) (R.M i) = some (R.V i, R.M (i + 1))
  slot : ∀ i, i < R.n → R.T (i + 1) = dput (R.O i).dst (R.V i) (R.T i)
  flt : ∀ i, i < R.n → (R.O i).op.kd = .float → ∀ σ, (R.O i).step R.cf R.base (R.T i) σ = some (R.V i, putO (R.fb i) σ)
  nofb : ∀ i, (R.O i).op.kd ≠ .float → R.fb i = none
  still : ∀ i, i < R.n → ¬ R.eff i → R.M (i + 1) = R.M i
  pure : ∀ i, i < R.n → (R.O i).op.kd = .pure → ∀ σ, (R.O i).step R.cf R.base (R.T i) σ = some (R.V i, σ)
  apart : ∀ i j, i < j → j < R.n → i ∈ R.pr j ∨ (apartR (R.O i) (R.O j) = true ∧ ¬ (R.eff i ∧ R.chain j))
  distinct : ∀ i j, i < j → j < R.n → ∀ b x c y, R.fb i = some (b, x) → R.fb j = some (c, y) → b ≠ c
  reads : ∀ i, i < R.n → (R.O i).op.kd = .read → ∀ q, q ≤ R.n → (q = R.n ∨ R.eff q) → q ∉ R.pr i → (∀ j, j < q → R.eff j → i ∉ R.pr j) → (R.O i).step R.cf R.base (R.T i) (R.Z i q) = some (R.V i, R.Z i q)
  below : ∀ i, i < R.n → ∀ j, j ∈ R.pr i → j < i
def accF (S : Nat → Bool) (k : Nat) : Fr := Nat.rec (motive := fun _ => Fr) (R.T 0) (fun k ih => if S k then dput (R.O k).dst (R.V k) ih else ih) k
def E (k : Nat) (σ : H) : H := match (R.O k).op.kd with | .chain => R.M (k + 1) | _ => putO (R.fb k) σ
def accM (S : Nat → Bool) (k : Nat) : H := Nat.rec (motive := fun _ => H) (R.M 0) (fun k ih => if S k then R.E k ih else ih) k
theorem accF_succ (S : Nat → Bool) (k : Nat) : R.accF S (k + 1) = if S k then dput (R.O k).dst (R.V k) (R.accF S k) else R.accF S k := rfl
theorem accM_succ (S : Nat → Bool) (k : Nat) : R.accM S (k + 1) = if S k then R.E k (R.accM S k) else R.accM S k := rfl
def Closed (S : Nat → Bool) : Prop := ∀ j, j < R.n → S j = true → ∀ i, i ∈ R.pr j → S i = true
def add (S : Nat → Bool) (i : Nat) : Nat → Bool := fun j => S j || decide (j = i)
theorem add_ne {S : Nat → Bool} {i j : Nat} (h : j ≠ i) : add S i j = S j := by simp [add, h]
theorem add_same {S : Nat → Bool} {i : Nat} : add S i i = true := by simp [add]
variable {R} (h : R.Ok)
include h
theorem E_M {k : Nat} (hk : k < R.n) : R.E k (R.M k) = R.M (k + 1) := by
  unfold E
  cases e : (R.O k).op.kd with
  | chain => rfl
  | float =>
    have h1 := h.flt k hk e (R.M k)
    rw [h.step k hk] at h1
    simp only
    cases h1' : R.fb k <;> rw [h1'] at h1 <;> exact (Prod.ext_iff.1 (Option.some.inj h1)).2.symm
  | pure =>
    simp only
    rw [h.nofb k (by rw [e]; simp), h.still k hk (by simp [eff, e])]; rfl
  | read =>
    simp only
    rw [h.nofb k (by rw [e]; simp), h.still k hk (by simp [eff, e])]; rfl
theorem E_id {k : Nat} (hk : ¬ R.eff k) (σ : H) : R.E k σ = σ := by
  unfold E
  cases e : (R.O k).op.kd with
  | chain => exact absurd (.inl e) hk
  | float => exact absurd (.inr e) hk
  | pure => simp only; rw [h.nofb k (by rw [e]; simp)]; rfl
  | read => simp only; rw [h.nofb k (by rw [e]; simp)]; rfl
theorem E_float {k : Nat} (hk : ¬ R.chain k) (σ : H) : R.E k σ = putO (R.fb k) σ := by
  unfold E
  cases e : (R.O k).op.kd with
  | chain => exact absurd e hk
  | float => rfl
  | pure => rfl
  | read => rfl
theorem M_still {k : Nat} (hk : k < R.n) (he : ¬ R.eff k) : R.M (k + 1) = R.M k := h.still k hk he
theorem accM_full {S : Nat → Bool} : ∀ {k : Nat}, k ≤ R.n → (∀ j, j < k → R.eff j → S j = true) → R.accM S k = R.M k := by
  intro k
  induction k with
  | zero => intro _ _; rfl
  | succ k ih =>
    intro hk hS
    rw [accM_succ, ih (by omega) (fun j hj => hS j (by omega))]
    by_cases hs : S k = true
    · rw [if_pos hs]; exact E_M h hk
    · rw [if_neg hs]
      exact (h.still k hk (fun he => hs (hS k (by omega) he))).symm
theorem accF_full {S : Nat → Bool} : ∀ {k : Nat}, k ≤ R.n → (∀ j, j < k → S j = true) → R.accF S k = R.T k := by
  intro k
  induction k with
  | zero => intro _ _; rfl
  | succ k ih =>
    intro hk hS
    rw [accF_succ, ih (by omega) (fun j hj => hS j (by omega)), if_pos (hS k (by omega)), h.slot k hk]
omit h in
theorem puts_append (L L' : List (Id × Blk)) (σ : H) : puts (L ++ L') σ = puts L' (puts L σ) := by simp [puts, List.foldl_append]
theorem accM_tail {S : Nat → Bool} {q : Nat} : ∀ {d : Nat}, q + d ≤ R.n → (∀ j, q ≤ j → j < q + d → S j = true → ¬ R.chain j) → R.accM S (q + d) = puts (tl R S q d) (R.accM S q) := by
  intro d
  induction d with
  | zero => intro _ _; rfl
  | succ d ih =>
    intro hd hS
    show R.accM S (q + d + 1) = puts (tl R S q d ++ (if S (q + d) then (R.fb (q + d)).toList else [])) (R.accM S q)
    rw [accM_succ, puts_append, ← ih (by omega) (fun j h1 h2 => hS j h1 (by omega))]
    by_cases hs : S (q + d) = true
    · rw [if_pos hs, if_pos hs, E_float h (hS _ (by omega) (by omega) hs)]
      cases R.fb (q + d) with
      | none => rfl
      | some p => rfl
    · rw [if_neg hs, if_neg hs]; rfl
omit h in
theorem mem_tl {S : Nat → Bool} {q : Nat} {p : Id × Blk} : ∀ {d : Nat}, p ∈ tl R S q d → ∃ j, q ≤ j ∧ j < q + d ∧ S j = true ∧ R.fb j = some p := by
  intro d
  induction d with
  | zero => intro hp; cases hp
  | succ d ih =>
    intro hp
    have hp : p ∈ tl R S q d ++ (if S (q + d) then (R.fb (q + d)).toList else []) := hp
    rcases List.mem_append.1 hp with hp | hp
    · obtain ⟨j, h1, h2, h3⟩ := ih hp; exact ⟨j, h1, by omega, h3⟩
    · by_cases hs : S (q + d) = true
      · rw [if_pos hs] at hp
        exact ⟨q + d, by omega, by omega, hs, by simpa using hp⟩
      · rw [if_neg hs] at hp; cases hp
/-- An operation that is ready finds its slots as in the order of the text. -/
theorem accF_slots {S : Nat → Bool} (hS : R.Closed S) {i : Nat} (hi : i < R.n) (hno : S i = false) (hpr : ∀ j, j ∈ R.pr i → S j = true) {x : I3} (hx : x ∈ (R.O i).slots) : get3 x (R.accF S R.n) = get3 x (R.T i) := by
  have keep : ∀ (d : Option I3) (v : AV) (τ : Fr), (∀ y, d = some y → y ≠ x) → get3 x (dput d v τ) = get3 x τ := fun d v τ hd => by
    cases d with
    | none => rfl
    | some y => show get3 x (set3 y v τ) = _; rw [get_set3, if_neg (hd y rfl)]
  have same : ∀ (d : Option I3) (v : AV) (τ τ' : Fr), get3 x τ = get3 x τ' → get3 x (dput d v τ) = get3 x (dput d v τ') := fun d v τ τ' hd => by
    cases d with
    | none => exact hd
    | some y => show get3 x (set3 y v τ) = get3 x (set3 y v τ'); rw [get_set3, get_set3, hd]
  have low : ∀ k, k ≤ i → get3 x (R.accF S k) = get3 x (R.T k) := by
    intro k
    induction k with
    | zero => intro _; rfl
    | succ k ih =>
      intro hk
      rw [accF_succ, h.slot k (by omega)]
      by_cases hs : S k = true
      · rw [if_pos hs]; exact same _ _ _ _ (ih (by omega))
      · rw [if_neg hs, ih (by omega), keep]
        intro y hy e
        subst e
        rcases h.apart k i (by omega) hi with h1 | ⟨h1, _⟩
        · exact hs (hpr k h1)
        · simp [apartR, hy, hx] at h1
  have high : ∀ d, i + d ≤ R.n → get3 x (R.accF S (i + d)) = get3 x (R.T i) := by
    intro d
    induction d with
    | zero => intro _; exact low i (Nat.le_refl _)
    | succ d ih =>
      intro hd
      show get3 x (R.accF S (i + d + 1)) = _
      rw [accF_succ]
      by_cases hs : S (i + d) = true
      · rw [if_pos hs, keep, ih (by omega)]
        intro y hy e
        subst e
        have hne : d ≠ 0 := fun e => by rw [e, Nat.add_zero, hno] at hs; cases hs
        rcases h.apart i (i + d) (by omega) (by omega) with h1 | ⟨h1, _⟩
        · have := hS _ (by omega) hs i h1
          rw [hno] at this; cases this
        · simp [apartR, hy, hx] at h1
      · rw [if_neg hs]; exact ih (by omega)
  have := high (R.n - i) (by omega)
  rwa [show i + (R.n - i) = R.n by omega] at this
/-- One more, in its slot. -/
theorem accF_add {S : Nat → Bool} (hS : R.Closed S) {i : Nat} (hi : i < R.n) (hno : S i = false) (x : I3) : get3 x (R.accF (add S i) R.n) = get3 x (dput (R.O i).dst (R.V i) (R.accF S R.n)) := by
  have keep : ∀ (d : Option I3) (v : AV) (τ : Fr), d ≠ some x → get3 x (dput d v τ) = get3 x τ := fun d v τ hd => by
    cases d with
    | none => rfl
    | some y => show get3 x (set3 y v τ) = _; rw [get_set3, if_neg (fun e => hd (by rw [e]))]
  have hit : ∀ (d : Option I3) (v : AV) (τ : Fr), d = some x → get3 x (dput d v τ) = v := fun d v τ hd => by
    subst hd; show get3 x (set3 x v τ) = _; rw [get_set3, if_pos rfl]
  have low : ∀ k, k ≤ i → R.accF (add S i) k = R.accF S k := by
    intro k
    induction k with
    | zero => intro _; rfl
    | succ k ih => intro hk; rw [accF_succ, accF_succ, ih (by omega), add_ne (by omega)]
  have high : ∀ d, i + 1 + d ≤ R.n → get3 x (R.accF (add S i) (i + 1 + d)) = get3 x (dput (R.O i).dst (R.V i) (R.accF S (i + 1 + d))) := by
    intro d
    induction d with
    | zero =>
      intro _
      show get3 x (R.accF (add S i) (i + 1)) = get3 x (dput _ _ (R.accF S (i + 1)))
      rw [accF_succ, accF_succ, add_same, hno, if_pos rfl, low i (Nat.le_refl _)]; rfl
    | succ d ih =>
      intro hd
      show get3 x (R.accF (add S i) (i + 1 + d + 1)) = get3 x (dput _ _ (R.accF S (i + 1 + d + 1)))
      rw [accF_succ, accF_succ, add_ne (by omega)]
      by_cases hs : S (i + 1 + d) = true
      · rw [if_pos hs, if_pos hs]
        have hap : apartR (R.O i) (R.O (i + 1 + d)) = true := by
          rcases h.apart i (i + 1 + d) (by omega) (by omega) with h1 | ⟨h1, _⟩
          · have := hS _ (by omega) hs i h1
            rw [hno] at this; cases this
          · exact h1
        by_cases e1 : (R.O (i + 1 + d)).dst = some x
        · have e2 : (R.O i).dst ≠ some x := fun e2 => by
            simp [apartR, e2, e1] at hap
          rw [hit _ _ _ e1, keep _ _ _ e2, hit _ _ _ e1]
        · rw [keep _ _ _ e1, ih (by omega)]
          by_cases e2 : (R.O i).dst = some x
          · rw [hit _ _ _ e2, hit _ _ _ e2]
          · rw [keep _ _ _ e2, keep _ _ _ e2, keep _ _ _ e1]
      · rw [if_neg hs, if_neg hs]; exact ih (by omega)
  have := high (R.n - (i + 1)) (by omega)
  rwa [show i + 1 + (R.n - (i + 1)) = R.n by omega] at this
omit h in
theorem accM_low {S : Nat → Bool} {i : Nat} : ∀ {k : Nat}, k ≤ i → R.accM (add S i) k = R.accM S k := by
  intro k
  induction k with
  | zero => intro _; rfl
  | succ k ih => intro hk; rw [accM_succ, accM_succ, ih (by omega), add_ne (by omega)]
theorem accM_add_still {S : Nat → Bool} {i : Nat} (he : ¬ R.eff i) : ∀ k, R.accM (add S i) k = R.accM S k := by
  intro k
  induction k with
  | zero => rfl
  | succ k ih =>
    rw [accM_succ, accM_succ, ih]
    by_cases e : k = i
    · subst e
      rw [add_same, if_pos rfl, E_id h he]; split <;> rfl
    · rw [add_ne e]
/-- Behind what is not chained: of the chain nothing was run. -/
theorem no_chain {S : Nat → Bool} (hS : R.Closed S) {q : Nat} (hq : q < R.n) (he : R.eff q) (hno : S q = false) : ∀ j, q < j → j < R.n → S j = true → ¬ R.chain j := fun j h1 h2 hj hc => by
  rcases h.apart q j h1 h2 with h3 | ⟨_, h3⟩
  · have := hS j h2 hj q h3
    rw [hno] at this; cases this
  · exact h3 ⟨he, hc⟩
theorem accM_add_float {S : Nat → Bool} (hS : R.Closed S) {i : Nat} (hi : i < R.n) (hf : (R.O i).op.kd = .float) (hno : S i = false) :
    (R.accM (add S i) R.n).n = (putO (R.fb i) (R.accM S R.n)).n ∧ ∀ b, (R.accM (add S i) R.n).blk b = (putO (R.fb i) (R.accM S R.n)).blk b := by
  have hnc := no_chain h hS hi (.inr hf) hno
  have pn : ∀ o σ, (putO o σ).n = σ.n := fun o σ => by cases o <;> rfl
  have pb : ∀ o σ b, (putO o σ).blk b = match o with | some (c, x) => if c = b then some x else σ.blk b | none => σ.blk b := fun o σ b => by
    cases o with
    | none => rfl
    | some p => exact H.blk_put σ p.1 b _
  have high : ∀ d, i + 1 + d ≤ R.n → (R.accM (add S i) (i + 1 + d)).n = (putO (R.fb i) (R.accM S (i + 1 + d))).n ∧ ∀ b, (R.accM (add S i) (i + 1 + d)).blk b = (putO (R.fb i) (R.accM S (i + 1 + d))).blk b := by
    intro d
    induction d with
    | zero =>
      intro _
      have e : R.accM (add S i) (i + 1) = putO (R.fb i) (R.accM S (i + 1)) := by
        rw [accM_succ, accM_succ, add_same, hno, if_pos rfl, accM_low (Nat.le_refl _), E_float h (by simp [chain, hf])]; rfl
      show (R.accM (add S i) (i + 1)).n = (putO (R.fb i) (R.accM S (i + 1))).n ∧ ∀ b, (R.accM (add S i) (i + 1)).blk b = (putO (R.fb i) (R.accM S (i + 1))).blk b
      rw [e]; exact ⟨rfl, fun _ => rfl⟩
    | succ d ih =>
      intro hd
      show (R.accM (add S i) (i + 1 + d + 1)).n = (putO (R.fb i) (R.accM S (i + 1 + d + 1))).n ∧ ∀ b, (R.accM (add S i) (i + 1 + d + 1)).blk b = (putO (R.fb i) (R.accM S (i + 1 + d + 1))).blk b
      obtain ⟨g1, g2⟩ := ih (by omega)
      rw [accM_succ, accM_succ, add_ne (by omega)]
      by_cases hs : S (i + 1 + d) = true
      · rw [if_pos hs, if_pos hs, E_float h (hnc _ (by omega) (by omega) hs), E_float h (hnc _ (by omega) (by omega) hs)]
        refine ⟨?_, fun b => ?_⟩
        · rw [pn, pn, pn]; rw [pn] at g1; exact g1
        · have g2b := g2 b
          rw [pb] at g2b ⊢
          rw [g2b, pb (R.fb i), pb (R.fb (i + 1 + d))]
          cases e1 : R.fb i with
          | none => cases e2 : R.fb (i + 1 + d) <;> rfl
          | some p =>
            cases e2 : R.fb (i + 1 + d) with
            | none => rfl
            | some p' =>
              obtain ⟨b1, x1⟩ := p
              obtain ⟨b2, x2⟩ := p'
              have := h.distinct i (i + 1 + d) (by omega) (by omega) _ _ _ _ e1 e2
              simp only
              by_cases h1 : b1 = b
              · by_cases h2 : b2 = b
                · exact absurd (h1.trans h2.symm) this
                · rw [if_pos h1, if_neg h2, if_pos h1]
              · rw [if_neg h1, if_neg h1]
      · rw [if_neg hs, if_neg hs]; exact ⟨g1, g2⟩
  have := high (R.n - (i + 1)) (by omega)
  rwa [show i + 1 + (R.n - (i + 1)) = R.n by omega] at this
/-- The first effect that has not been. -/
theorem first (S : Nat → Bool) : ∃ q, q ≤ R.n ∧ (∀ j, j < q → R.eff j → S j = true) ∧ (q = R.n ∨ (q < R.n ∧ R.eff q ∧ S q = false)) := by
  have : ∀ k, k ≤ R.n → (∀ j, j < k → R.eff j → S j = true) ∨ ∃ q, q < k ∧ (∀ j, j < q → R.eff j → S j = true) ∧ R.eff q ∧ S q = false := by
    intro k
    induction k with
    | zero => intro _; exact .inl fun j hj => by omega
    | succ k ih =>
      intro hk
      rcases ih (by omega) with h1 | ⟨q, h1, h2⟩
      · by_cases hs : S k = true
        · exact .inl fun j hj he => by
            by_cases e : j = k
            · rw [e]; exact hs
            · exact h1 j (by omega) he
        · by_cases he : R.eff k
          · exact .inr ⟨k, by omega, h1, he, by simpa using hs⟩
          · exact .inl fun j hj he' => by
              by_cases e : j = k
              · rw [e] at he'; exact absurd he' he
              · exact h1 j (by omega) he'
      · exact .inr ⟨q, by omega, h2⟩
  rcases this R.n (Nat.le_refl _) with h1 | ⟨q, h1, h2, h3, h4⟩
  · exact ⟨R.n, Nat.le_refl _, h1, .inl rfl⟩
  · exact ⟨q, by omega, h2, .inr ⟨h1, h3, h4⟩⟩
/-- Memory, as that of the order of the text with blocks beside. -/
theorem accM_at {S : Nat → Bool} (hS : R.Closed S) {q : Nat} (hq : q ≤ R.n) (hlow : ∀ j, j < q → R.eff j → S j = true) (hat : q = R.n ∨ (q < R.n ∧ R.eff q ∧ S q = false)) :
    R.accM S R.n = puts (tl R S q (R.n - q)) (R.M q) := by
  rw [← accM_full h hq hlow, ← accM_tail h (by omega), show q + (R.n - q) = R.n by omega]
  intro j h1 h2 h3
  rcases hat with rfl | ⟨h4, h5, h6⟩
  · omega
  · by_cases e : j = q
    · rw [e, h6] at h3; cases h3
    · exact no_chain h hS h4 h5 h6 j (by omega) (by omega) h3
end Row
end
end Go.Dk
namespace Go.Dk
open Go
variable [Keep]
theorem TR.congr {φ : Emb} {N : Nat} {τ τ' : Fr} {a : Act} (h : TR φ N τ a) (ht : ∀ x, get3 x τ' = get3 x τ) : TR φ N τ' a := ⟨h.size, h.defers, h.glob, fun i => by rw [ht]; exact h.slot i⟩
theorem Fm.congr {m : Id → Prop} {φ φ' : Emb} {σ σ' σ2 : H} {w w' : World} (h : Fm m φ σ w φ' σ' w') (hn : σ2.n.num = σ'.n.num) (hb : ∀ b, σ2.blk b = σ'.blk b) : Fm m φ σ w φ' σ2 w' :=
  { h with img := fun b x c z h1 => h.img b x c z (by rw [← hb]; exact h1), n := by rw [hn]; exact h.n }
theorem Fm.congr0 {m : Id → Prop} {φ φ' : Emb} {σ σ' σ2 : H} {w w' : World} (h : Fm m φ σ w φ' σ' w') (hn : σ2.n.num = σ.n.num) (hb : ∀ b, σ2.blk b = σ.blk b) : Fm m φ σ2 w φ' σ' w' :=
  { h with
    kept := fun k hk hno => h.kept k hk fun b x c z h1 h2 => hno b x c z (by rw [hb]; exact h1) h2
    img := fun b x c z h1 h2 h3 => by
      obtain ⟨b0, x0, z0, h4, h5⟩ := h.img b x c z h1 h2 h3
      exact ⟨b0, x0, z0, by rw [hb]; exact h4, h5⟩
    n := by rw [hn]; exact h.n }
theorem puts_hit {b : Id} : ∀ {L : List (Id × Blk)} {σ : H}, (∃ p ∈ L, p.1 = b) → ∃ x, (b, x) ∈ L ∧ (puts L σ).blk b = some x := by
  intro L
  induction L with
  | nil => intro σ ⟨p, hp, _⟩; cases hp
  | cons p L ih =>
    intro σ h
    by_cases hL : ∃ q ∈ L, q.1 = b
    · obtain ⟨x, h1, h2⟩ := ih (σ := σ.put p.1 (some p.2)) hL
      exact ⟨x, by simp [h1], h2⟩
    · have hno : ∀ q ∈ L, q.1 ≠ b := fun q hq e => hL ⟨q, hq, e⟩
      have hp : p.1 = b := by
        obtain ⟨q, hq, e⟩ := h
        rcases List.mem_cons.1 hq with rfl | hq
        · exact e
        · exact absurd e (hno q hq)
      refine ⟨p.2, by rw [← hp]; simp, ?_⟩
      show (puts L (σ.put p.1 (some p.2))).blk b = _
      rw [puts_notin hno, H.blk_put, if_pos hp]
namespace Row
theorem fb_one {R : Row} (h : R.Ok) {i j : Nat} (hi : i < R.n) (hj : j < R.n) {p p' : Id × Blk} (h1 : R.fb i = some p) (h2 : R.fb j = some p') (e : p.1 = p'.1) : i = j := by
  rcases Nat.lt_trichotomy i j with h3 | h3 | h3
  · exact absurd e (h.distinct i j h3 hj p.1 p.2 p'.1 p'.2 h1 h2)
  · exact h3
  · exact absurd e.symm (h.distinct j i h3 hi p'.1 p'.2 p.1 p.2 h2 h1)
theorem tl_iff {R : Row} {S : Nat → Bool} {q : Nat} {p : Id × Blk} : ∀ {d : Nat}, p ∈ tl R S q d ↔ ∃ j, q ≤ j ∧ j < q + d ∧ S j = true ∧ R.fb j = some p := by
  intro d
  constructor
  · exact mem_tl
  · induction d with
    | zero => rintro ⟨j, h1, h2, _⟩; omega
    | succ d ih =>
      rintro ⟨j, h1, h2, h3, h4⟩
      show p ∈ tl R S q d ++ (if S (q + d) then (R.fb (q + d)).toList else [])
      rw [List.mem_append]
      by_cases e : j = q + d
      · subst e
        refine .inr ?_
        rw [if_pos h3, h4]; simp
      · exact .inl (ih ⟨j, h1, by omega, h3, h4⟩)
theorem puts_perm {R : Row} (h : R.Ok) {L L' : List (Id × Blk)} (hp : ∀ p, p ∈ L ↔ p ∈ L') (hL : ∀ p ∈ L', ∃ j, j < R.n ∧ R.fb j = some p) {σ : H} (b : Id) : (puts L σ).blk b = (puts L' σ).blk b := by
  by_cases hb : ∃ p ∈ L, p.1 = b
  · obtain ⟨x, h1, h2⟩ := puts_hit (σ := σ) hb
    obtain ⟨y, h3, h4⟩ := puts_hit (σ := σ) (L := L') (let ⟨p, h5, h6⟩ := hb; ⟨p, (hp p).1 h5, h6⟩)
    obtain ⟨i, hi, e1⟩ := hL _ ((hp _).1 h1)
    obtain ⟨j, hj, e2⟩ := hL _ h3
    have := fb_one h hi hj e1 e2 rfl
    subst this
    rw [e1] at e2
    cases e2
    rw [h2, h4]
  · rw [puts_notin fun p h1 e => hb ⟨p, h1, e⟩, puts_notin fun p h1 e => hb ⟨p, (hp p).2 h1, e⟩]
/-- How the row stands for the region. -/
structure Of (R : Row) (P : Program) (N : Nat) (ops : Array Oper) (rs : Nat → Option Nat) : Prop where
  size : ops.size = R.n
  at' : ∀ i, i < R.n → ∃ o, ops[i]? = some o ∧ arOf P N ops (rs i) o = some (R.O i) ∧ (∀ j, j ∈ R.pr i → ∃ e ∈ o.after.toList, Region.binds .any e = true ∧ (j = e.on ∨ j ∈ R.pr e.on)) ∧ ∀ e ∈ o.after.toList, Region.binds .any e = true → e.on < i
  none : ∀ i, i < R.n → (R.O i).op.kd ≠ .float → rs i = none
  fbid : ∀ i b x, i < R.n → R.fb i = some (b, x) → (rs i).bind R.base.plus = some b
  one : ∀ i j b, i < R.n → j < R.n → (rs i).bind R.base.plus = some b → (rs j).bind R.base.plus = some b → i = j
  num : ∀ i b, i < R.n → (rs i).bind R.base.plus = some b → R.base.num ≤ b.num ∧ b.num < (R.M 0).n.num
  base : R.base.num ≤ (R.M 0).n.num
section
variable {R : Row} {P : Program} {N : Nat} {ops : Array Oper} {rs : Nat → Option Nat} (h : R.Ok) (hO : R.Of P N ops rs) (hcf : CallR P R.cf)
include h hO hcf
/-- The order of the text, run once: the kept numbers stay free until they are used. -/
theorem lex {φ : Emb} {w : World} {a : Act} (hT : TR φ N (R.T 0) a) (hH : HR φ (R.M 0) w) (hf : ∀ i b, i < R.n → (rs i).bind R.base.plus = some b → φ b = none) :
    ∀ k, k ≤ R.n → ∃ φ' a' w', TR φ' N (R.T k) a' ∧ HR φ' (R.M k) w' ∧ (R.M 0).n.num ≤ (R.M k).n.num ∧ ∀ i b, k ≤ i → i < R.n → (rs i).bind R.base.plus = some b → φ' b = none := by
  intro k
  induction k with
  | zero => intro _; exact ⟨φ, a, w, hT, hH, Nat.le_refl _, fun i b _ => hf i b⟩
  | succ k ih =>
    intro hk
    obtain ⟨φ1, a1, w1, h1, h2, h3, h4⟩ := ih (by omega)
    obtain ⟨o, ho, har, _⟩ := hO.at' k (by omega)
    obtain ⟨_, _, hd, hN⟩ := want_R h1 har
    have hs := h.step k (by omega)
    have h0 := hO.base
    obtain ⟨φ2, v2, w2, g1, g2, g3⟩ := step_E (m := fun b => (R.M k).n.num ≤ b.num ∨ (rs k).bind R.base.plus = some b) hcf har h1 h2
      ⟨.inl (Nat.le_refl _), fun j hj b hb => by
        have hbb : (rs k).bind R.base.plus = some b := by rw [hj]; exact hb
        have := hO.num k b (by omega) hbb
        exact ⟨h4 k b (Nat.le_refl _) (by omega) hbb, by omega, .inr hbb⟩⟩ (fun b hb => .inl hb) hs
    refine ⟨φ2, a1.put o.dst v2, w2, ?_, g2, Nat.le_trans h3 g3.n, fun i b h5 h6 h7 => ?_⟩
    · rw [h.slot k (by omega)]; exact (h1.mono g3.ext).put (R.O k).dst o.dst hd hN g1
    · cases e : φ2 b with
      | none => rfl
      | some y =>
        rcases g3.old b (h4 i b (by omega) h6 h7) (by rw [e]; simp) with h8 | h8
        · have := hO.num i b h6 h7; omega
        · have := hO.one i k b h6 (by omega) h7 h8; omega
theorem fresh {φ : Emb} {w : World} {a : Act} (hT : TR φ N (R.T 0) a) (hH : HR φ (R.M 0) w) (hf : ∀ i b, i < R.n → (rs i).bind R.base.plus = some b → φ b = none) :
    ∀ k, k ≤ R.n → (R.M 0).n.num ≤ (R.M k).n.num ∧ ∀ i b, k ≤ i → i < R.n → (rs i).bind R.base.plus = some b → (R.M k).blk b = none := by
  intro k hk
  obtain ⟨φ', a', w', _, h2, h3, h4⟩ := lex h hO hcf hT hH hf k hk
  refine ⟨h3, fun i b h5 h6 h7 => ?_⟩
  cases e : (R.M k).blk b with
  | none => rfl
  | some x =>
    obtain ⟨c, z, h8, _⟩ := h2.blk b x e
    rw [h4 i b h5 h6 h7] at h8; cases h8
end
/-- What stands when S has been. -/
def Inv (R : Row) (N : Nat) (rs : Nat → Option Nat) (φ0 : Emb) (σ0 : H) (w0 : World) (S : Nat → Bool) (a : Act) (w : World) : Prop :=
  ∃ φ, TR φ N (R.accF S R.n) a ∧ HR φ (R.accM S R.n) w ∧ Fm (From R.base.num) φ0 σ0 w0 φ (R.accM S R.n) w ∧ ∀ f b, f < R.n → S f = false → (rs f).bind R.base.plus = some b → φ b = none
def Fresh (R : Row) (rs : Nat → Option Nat) : Prop := ∀ k, k ≤ R.n → (R.M 0).n.num ≤ (R.M k).n.num ∧ ∀ i b, k ≤ i → i < R.n → (rs i).bind R.base.plus = some b → (R.M k).blk b = none
section
variable {R : Row} {P : Program} {N : Nat} {ops : Array Oper} {rs : Nat → Option Nat} (h : R.Ok) (hO : R.Of P N ops rs) (hcf : CallR P R.cf) (hF : R.Fresh rs) {φ0 : Emb} {σ0 : H} {w0 : World} {S : Nat → Bool} {a : Act} {w : World}
include h hO hcf hF
theorem inv_step (hS : R.Closed S) (hI : R.Inv N rs φ0 σ0 w0 S a w) {i : Nat} (hi : i < R.n) (hno : S i = false) (hpr : ∀ j, j ∈ R.pr i → S j = true) {o : Oper} (ho : ops[i]? = some o)
    {K : Act → World → Prop} {Q : Exit → Act → World → Prop} (hK : ∀ a' w', R.Inv N rs φ0 σ0 w0 (add S i) a' w' → K a' w') :
    if Region.wanted o (yielded ops a.tmps) then o.wp P a w K Q else K (a.put o.dst undef) w := by
  obtain ⟨φ, hT, hH, hM, hfr⟩ := hI
  obtain ⟨o', ho', har, _⟩ := hO.at' i hi
  rw [ho] at ho'; cases ho'
  obtain ⟨_, _, hd, hN⟩ := want_R hT har
  have hsl : ∀ σ, (R.O i).step R.cf R.base (R.accF S R.n) σ = (R.O i).step R.cf R.base (R.T i) σ := fun σ =>
    AR.step_congr R.cf (R.O i) (fun x hx => accF_slots h hS hi hno hpr hx) R.base σ
  obtain ⟨q, hq, hlow, hat⟩ := first h S
  have hmem := accM_at h hS hq hlow hat
  have hnum : (R.M 0).n.num ≤ (R.accM S R.n).n.num := by rw [hmem, puts_n]; exact (hF q hq).1
  have hb0 := hO.base
  -- the end of each
  have fin : ∀ (m : Id → Prop) φ' v' w' σ', VR φ' (R.V i) v' → HR φ' σ' w' → Fm m φ (R.accM S R.n) w φ' σ' w' → (∀ b, m b → (R.M 0).n.num ≤ b.num ∨ (rs i).bind R.base.plus = some b) →
      (R.accM (add S i) R.n).n.num = σ'.n.num → (∀ b, (R.accM (add S i) R.n).blk b = σ'.blk b) → K (a.put o.dst v') w' := by
    intro m φ' v' w' σ' h1 h2 h3 hm hn hb
    refine hK _ _ ⟨φ', ?_, h2.congr hn hb, ((hM.trans ((h3.weaken fun b hb => ?_))).congr hn hb), fun f b hf hs hr => ?_⟩
    · exact ((hT.mono h3.ext).put (R.O i).dst o.dst hd hN h1).congr fun x => accF_add h hS hi hno x
    · rcases hm b hb with h4 | h4
      · exact Nat.le_trans hb0 h4
      · exact (hO.num i b hi h4).1
    · have hfi : f ≠ i := fun e => by rw [e, add_same] at hs; cases hs
      rw [add_ne hfi] at hs
      cases e : φ' b with
      | none => rfl
      | some y =>
        rcases hm b (h3.old b (hfr f b hf hs hr) (by rw [e]; simp)) with h4 | h4
        · have := hO.num f b hf hr; omega
        · exact absurd (hO.one f i b hf hi hr h4) hfi
  cases hk : (R.O i).op.kd with
  | pure =>
    refine step_R' hcf (hO.none i hi (by rw [hk]; simp)) har (by rw [hk]; simp) hT hH ((hsl _).trans (h.pure i hi hk _)) fun φ' v' w' h1 h2 h3 => ?_
    refine fin _ φ' v' w' _ h1 h2 h3 (fun b hb => .inl (Nat.le_trans hnum hb)) ?_ ?_
    · rw [accM_add_still h (by simp [eff, hk])]
    · intro b; rw [accM_add_still h (by simp [eff, hk])]
  | read =>
    have hL : ∀ (S' : Nat → Bool) p, p ∈ tl R S' q (R.n - q) → (R.M q).blk p.1 = none := fun S' p hp => by
      obtain ⟨j, h1, h2, h3, h4⟩ := mem_tl hp
      exact (hF q hq).2 j p.1 h1 (by omega) (hO.fbid j p.1 p.2 (by omega) h4)
    let S2 : Nat → Bool := fun j => S j && !R.leans i j
    have hsplit : ∀ b, (puts (tl R S2 q (R.n - q)) (R.Z i q)).blk b = (R.accM S R.n).blk b := fun b => by
      rw [hmem]
      unfold Z
      rw [← puts_append]
      refine puts_perm h (fun p => ?_) (fun p hp => ?_) b
      · rw [List.mem_append, tl_iff, tl_iff, tl_iff]
        constructor
        · rintro (⟨j, h1, h2, h3, h4⟩ | ⟨j, h1, h2, h3, h4⟩)
          · exact ⟨j, h1, h2, hpr j (by simpa [leans] using h3), h4⟩
          · exact ⟨j, h1, h2, (Bool.and_eq_true _ _ ▸ h3 : S j = true ∧ _).1, h4⟩
        · rintro ⟨j, h1, h2, h3, h4⟩
          cases e : R.leans i j with
          | true => exact .inl ⟨j, h1, h2, e, h4⟩
          | false => exact .inr ⟨j, h1, h2, by show (S j && !R.leans i j) = true; rw [h3, e]; rfl, h4⟩
      · obtain ⟨j, h1, h2, h3, h4⟩ := mem_tl hp
        exact ⟨j, by omega, h4⟩
    have hZn : (R.Z i q).n = (R.M q).n := puts_n _ _
    have hL2 : ∀ p ∈ tl R S2 q (R.n - q), (R.Z i q).blk p.1 = none := fun p hp => by
      unfold Z
      rw [puts_notin, hL S2 p hp]
      intro p' hp' e
      obtain ⟨j, h1, h2, h3, h4⟩ := mem_tl hp
      obtain ⟨j', h1', h2', h3', h4'⟩ := mem_tl hp'
      have : j' = j := fb_one h (by omega) (by omega) (p := p') (p' := p) h4' h4 e
      subst this
      have h3 : (S j' && !R.leans i j') = true := h3
      rw [h3'] at h3
      simp at h3
    have hH' : HR φ (puts (tl R S2 q (R.n - q)) (R.Z i q)) w := hH.congr (by rw [puts_n, hZn, hmem, puts_n]) hsplit
    have hrd := h.reads i hi hk q hq (by rcases hat with h1 | h1; exact .inl h1; exact .inr h1.2.1) (fun hin => by
      rcases hat with h1 | h1
      · have := h.below i hi q hin; omega
      · have := hpr q hin; rw [h1.2.2] at this; cases this) (fun j hj he hin => by
      have := hS j (by omega) (hlow j hj he) i hin
      rw [hno] at this; cases this)
    refine step_R' hcf (hO.none i hi (by rw [hk]; simp)) har (by rw [hk]; simp) hT (hH'.without hL2) ((hsl _).trans hrd) fun φ' v' w' h1 h2 h3 => ?_
    obtain ⟨h4, h5⟩ := HR.again hH' hL2 h2 h3 hL2
    have hn2 : (R.accM S R.n).n.num = (puts (tl R S2 q (R.n - q)) (R.Z i q)).n.num := by rw [puts_n, hZn, hmem, puts_n]
    replace h4 := h4.congr (σ2 := R.accM S R.n) hn2 fun b => (hsplit b).symm
    replace h5 := (h5.congr0 hn2 fun b => (hsplit b).symm).congr hn2 fun b => (hsplit b).symm
    refine fin _ φ' v' w' _ h1 h4 h5 (fun b hb => .inl (Nat.le_trans (hF q hq).1 (by rw [← hZn]; exact hb))) ?_ ?_
    · rw [accM_add_still h (by simp [eff, hk])]
    · intro b; rw [accM_add_still h (by simp [eff, hk])]
  | chain =>
    have hall : ∀ j, j < i → R.eff j → S j = true := fun j hj he => by
      rcases h.apart j i hj hi with h1 | ⟨_, h1⟩
      · exact hpr j h1
      · exact absurd ⟨he, hk⟩ h1
    have hnc := no_chain h hS hi (.inl hk) hno
    have e1 : R.accM S R.n = puts (tl R S (i + 1) (R.n - (i + 1))) (R.M i) := by
      have e : R.accM S (i + 1) = R.M i := by rw [accM_succ, hno, accM_full h (by omega) hall]; rfl
      rw [← e, ← accM_tail h (by omega) (fun j h1 h2 h3 => hnc j (by omega) (by omega) h3), show i + 1 + (R.n - (i + 1)) = R.n by omega]
    have etl : ∀ d, tl R (add S i) (i + 1) d = tl R S (i + 1) d := by
      intro d
      induction d with
      | zero => rfl
      | succ d ih =>
        show tl R (add S i) (i + 1) d ++ (if add S i (i + 1 + d) then (R.fb (i + 1 + d)).toList else []) = tl R S (i + 1) d ++ (if S (i + 1 + d) then (R.fb (i + 1 + d)).toList else [])
        rw [ih, add_ne (by omega)]
    have e2 : R.accM (add S i) R.n = puts (tl R S (i + 1) (R.n - (i + 1))) (R.M (i + 1)) := by
      have e : R.accM (add S i) (i + 1) = R.M (i + 1) := accM_full h (by omega) fun j hj he => by
        by_cases e : j = i
        · rw [e, add_same]
        · rw [add_ne e]; exact hall j (by omega) he
      rw [← e, ← etl, ← accM_tail h (by omega) (fun j h1 h2 h3 => hnc j (by omega) (by omega) (by rwa [add_ne (by omega)] at h3)), show i + 1 + (R.n - (i + 1)) = R.n by omega]
    have hL : ∀ k, i ≤ k → k ≤ i + 1 → ∀ p ∈ tl R S (i + 1) (R.n - (i + 1)), (R.M k).blk p.1 = none := fun k hk1 hk2 p hp => by
      obtain ⟨j, h1, h2, h3, h4⟩ := mem_tl hp
      exact (hF k (by omega)).2 j p.1 (by omega) (by omega) (hO.fbid j p.1 p.2 (by omega) h4)
    have hH' := hH
    rw [e1] at hH'
    refine step_R' hcf (hO.none i hi (by rw [hk]; simp)) har (by rw [hk]; simp) hT (hH'.without (hL i (Nat.le_refl _) (by omega))) ((hsl _).trans (h.step i hi)) fun φ' v' w' h1 h2 h3 => ?_
    obtain ⟨h4, h5⟩ := HR.again hH' (hL i (Nat.le_refl _) (by omega)) h2 h3 (hL (i + 1) (by omega) (Nat.le_refl _))
    rw [← e1] at h5
    rw [← e2] at h4 h5
    exact fin _ φ' v' w' _ h1 h4 h5 (fun b hb => .inl (Nat.le_trans (hF i (by omega)).1 hb)) rfl fun _ => rfl
  | float =>
    obtain ⟨g1, g2⟩ := accM_add_float h hS hi hk hno
    refine step_R (m := fun b => (R.accM S R.n).n.num ≤ b.num ∨ (rs i).bind R.base.plus = some b) hcf har hT hH ⟨.inl (Nat.le_refl _), fun j hj b hb => ?_⟩ (fun b hb => .inl hb) ((hsl _).trans (h.flt i hi hk _)) fun φ' v' w' h1 h2 h3 => ?_
    · have hbb : (rs i).bind R.base.plus = some b := by rw [hj]; exact hb
      have := hO.num i b hi hbb
      exact ⟨hfr i b hi hno hbb, by omega, .inr hbb⟩
    · exact fin _ φ' v' w' _ h1 h2 h3 (fun b hb => hb.imp (Nat.le_trans hnum) id) (by rw [g1]) g2
end
/-- How many are still to come. -/
def cnt (S : Nat → Bool) (k : Nat) : Nat := Nat.rec (motive := fun _ => Nat) 0 (fun k ih => ih + (if S k then 0 else 1)) k
theorem cnt_zero {S : Nat → Bool} : ∀ {k : Nat}, cnt S k = 0 → ∀ j, j < k → S j = true := by
  intro k
  induction k with
  | zero => intro _ j hj; omega
  | succ k ih =>
    intro hc j hj
    have hc : cnt S k + (if S k then 0 else 1) = 0 := hc
    by_cases e : j = k
    · subst e
      cases hs : S j with
      | true => rfl
      | false => rw [hs] at hc; simp at hc
    · exact ih (by omega) j (by omega)
theorem cnt_add {S : Nat → Bool} {i : Nat} (hno : S i = false) : ∀ {k : Nat}, (k ≤ i → cnt (add S i) k = cnt S k) ∧ (i < k → cnt (add S i) k + 1 = cnt S k) := by
  intro k
  induction k with
  | zero => exact ⟨fun _ => rfl, fun hk => by omega⟩
  | succ k ih =>
    have e1 : cnt (add S i) (k + 1) = cnt (add S i) k + (if add S i k then 0 else 1) := rfl
    have e2 : cnt S (k + 1) = cnt S k + (if S k then 0 else 1) := rfl
    rw [e1, e2]
    refine ⟨fun hk => ?_, fun hk => ?_⟩
    · rw [ih.1 (by omega), add_ne (by omega)]
    · by_cases e : i = k
      · subst e
        rw [add_same, hno, ih.1 (Nat.le_refl _)]; simp
      · rw [add_ne (Ne.symm e), ← ih.2 (by omega)]; omega
theorem cnt_le (S : Nat → Bool) : ∀ k, cnt S k ≤ k := by
  intro k
  induction k with
  | zero => exact Nat.le_refl _
  | succ k ih =>
    have e2 : cnt S (k + 1) = cnt S k + (if S k then 0 else 1) := rfl
    rw [e2]; split <;> omega
section
variable {R : Row} {P : Program} {N : Nat} {ops : Array Oper} {rs : Nat → Option Nat} (h : R.Ok) (hO : R.Of P N ops rs) (hcf : CallR P R.cf) (hF : R.Fresh rs) {φ0 : Emb} {σ0 : H} {w0 : World}
include h hO hcf hF
theorem any_R {Q : Exit → Act → World → Prop} (hQ : ∀ φ a w, TR φ N (R.T R.n) a → HR φ (R.M R.n) w → Fm (From R.base.num) φ0 σ0 w0 φ (R.M R.n) w → Q .normal a w) :
    ∀ (fuel : Nat) (listed : Array Bool) (a : Act) (w : World), listed.size = R.n → R.Closed (fun j => listed.getD j false) → R.Inv N rs φ0 σ0 w0 (fun j => listed.getD j false) a w → cnt (fun j => listed.getD j false) R.n ≤ fuel →
      wpAny P .any ops Q fuel listed a w := by
  have done : ∀ (listed : Array Bool) (a : Act) (w : World), R.Inv N rs φ0 σ0 w0 (fun j => listed.getD j false) a w → (∀ j, j < R.n → listed.getD j false = true) → Q .normal a w := by
    intro listed a w ⟨φ, h1, h2, h3, _⟩ hall
    rw [accM_full h (Nat.le_refl _) (fun j hj _ => hall j hj)] at h2 h3
    rw [accF_full h (Nat.le_refl _) hall] at h1
    exact hQ φ a w h1 h2 h3
  have getD_eq : ∀ (listed : Array Bool) (b : Bool) j, j < listed.size → listed.getD j b = listed.getD j false := fun listed b j hj => by simp [Array.getD, hj]
  have rd : ∀ (listed : Array Bool) i, listed.size = R.n → i ∈ Region.ready .any ops listed → i < R.n ∧ listed.getD i false = false ∧ ∀ o, ops[i]? = some o → ∀ e ∈ o.after.toList, Region.binds .any e = true → listed.getD e.on false = true := by
    intro listed i hs hi
    unfold Region.ready at hi
    rw [List.mem_filter, List.mem_range, hO.size] at hi
    obtain ⟨h1, h2⟩ := hi
    rw [Bool.and_eq_true] at h2
    refine ⟨h1, ?_, fun o ho e he hb => ?_⟩
    · rw [← getD_eq listed true i (by omega)]; simpa using h2.1
    · have h3 := h2.2
      rw [ho] at h3
      simp only [Option.map_some, Option.getD_some] at h3
      rw [← Array.all_toList, List.all_eq_true] at h3
      have := h3 e he
      rw [hb] at this
      simpa using this
  have nordy : ∀ (listed : Array Bool), listed.size = R.n → Region.ready .any ops listed = [] → ∀ j, j < R.n → listed.getD j false = true := by
    intro listed hs hr j
    induction j using Nat.strongRecOn with
    | ind j ih =>
      intro hj
      cases hl : listed.getD j false with
      | true => rfl
      | false =>
        exfalso
        have : j ∈ Region.ready .any ops listed := by
          unfold Region.ready
          rw [List.mem_filter, List.mem_range, hO.size]
          refine ⟨hj, ?_⟩
          obtain ⟨o, ho, _, _, hlt⟩ := hO.at' j hj
          rw [Bool.and_eq_true]
          refine ⟨by rw [getD_eq listed true j (by omega), hl]; rfl, ?_⟩
          rw [ho]
          simp only [Option.map_some, Option.getD_some]
          rw [← Array.all_toList, List.all_eq_true]
          intro e he
          cases hb : Region.binds .any e with
          | false => rfl
          | true =>
            have := hlt e he hb
            rw [ih e.on this (by omega)]; rfl
        rw [hr] at this; cases this
  intro fuel
  induction fuel with
  | zero =>
    intro listed a w hs _ hI hc
    have hall := cnt_zero (Nat.le_zero.1 hc)
    refine ⟨?_, done listed a w hI hall⟩
    cases hr : Region.ready .any ops listed with
    | nil => rfl
    | cons i r =>
      have := rd listed i hs (by rw [hr]; simp)
      rw [hall i this.1] at this; cases this.2.1
  | succ fuel ih =>
    intro listed a w hs hS hI hc
    refine ⟨fun hr => done listed a w hI (nordy listed hs hr), fun i hi => ?_⟩
    obtain ⟨h1, h2, h3⟩ := rd listed i hs hi
    obtain ⟨o, ho, _, hpo, _⟩ := hO.at' i h1
    have hpr : ∀ j, j ∈ R.pr i → listed.getD j false = true := fun j hj => by
      obtain ⟨e, he, hb, hor⟩ := hpo j hj
      have hon := h3 o ho e he hb
      rcases hor with rfl | hor
      · exact hon
      · have hlt : e.on < R.n := by
          rcases Nat.lt_or_ge e.on R.n with h5 | h5
          · exact h5
          · rw [Array.getD_eq_getD_getElem?, Array.getElem?_eq_none (by omega)] at hon; cases hon
        exact hS e.on hlt hon j hor
    have e0 : (fun j => (listed.setIfInBounds i true).getD j false) = add (fun j => listed.getD j false) i := by
      funext j
      show (listed.setIfInBounds i true).getD j false = (listed.getD j false || decide (j = i))
      rw [Array.getD_eq_getD_getElem?, Array.getD_eq_getD_getElem?, Array.getElem?_setIfInBounds]
      by_cases e : i = j
      · subst e; rw [if_pos rfl, if_pos (by omega)]; simp
      · rw [if_neg e, decide_eq_false (fun e' => e e'.symm), Bool.or_false]
    have key := inv_step (K := wpAny P .any ops Q fuel (listed.setIfInBounds i true)) (Q := Q) h hO hcf hF hS hI h1 h2 hpr ho fun a' w' hI' => by
      refine ih _ a' w' (by simpa using hs) ?_ ?_ ?_
      · rw [e0]
        intro j hj hsj k hk
        by_cases e : j = i
        · subst e
          by_cases e2 : k = j
          · subst e2; exact add_same
          · rw [add_ne e2]; exact hpr k hk
        · rw [add_ne e] at hsj
          by_cases e2 : k = i
          · rw [e2]; exact add_same
          · rw [add_ne e2]; exact hS j hj hsj k hk
      · rw [e0]; exact hI'
      · rw [e0]
        have := (cnt_add (S := fun j => listed.getD j false) h2 (k := R.n)).2 h1
        omega
    unfold wpOp
    rw [ho]
    simp only
    by_cases hw : Region.wanted o (yielded ops a.tmps) = true
    · rw [if_pos hw] at key ⊢; exact .inl key
    · rw [if_neg hw] at key ⊢; exact key
end
end Row
end Go.Dk
namespace Go.Dk
open Go
variable [Keep]
theorem one0_eq {x y : AV} (h : one0 x y = true) : x = y := by
  unfold one0 at h
  split at h <;> first
    | rfl
    | (cases h; done)
    | skip
  · simp at h; rw [h]
  · simp [keq_eq, ieq_eq] at h; rw [h.1, h.2]
  · simp [seq8_eq] at h; rw [h]
  · simp at h; rw [h.1, h.2]
  · simp at h; obtain ⟨⟨⟨⟨h1, h2⟩, h3⟩, h4⟩, h5⟩ := h; rw [h1, h2, h3, h4, h5]
  · simp at h; rw [h]
  · simp at h; rw [h]
theorem one1_eq {x y : AV} (h : one1 x y = true) : x = y := by
  unfold one1 at h
  split at h
  · rw [Bool.and_eq_true] at h
    rw [of_decide_eq_true h.1, one0_eq h.2]
  · exact one0_eq h
theorem goAV_eq : ∀ {l r : List AV}, goAV l r = true → l = r := by
  intro l
  induction l with
  | nil => intro r h; cases r with
    | nil => rfl
    | cons y r => cases h
  | cons x l ih => intro r h; cases r with
    | nil => cases h
    | cons y r =>
      change (one1 x y && goAV l r) = true at h
      rw [Bool.and_eq_true] at h
      rw [one1_eq h.1, ih h.2]
theorem sameAV_eq {x y : AV} (h : sameAV x y = true) : x = y := by
  unfold sameAV at h
  split at h
  · rw [goAV_eq h]
  · rw [goAV_eq h]
  · exact one1_eq h
/-! The lane of a run -/
theorem runS_lane {cf : I3 → List AV → H → Option (AV × H)} {base : Id} : ∀ {l : List AR} {τ : Fr} {σ : H} {snaps : List (Fr × H)}, runS cf base l τ σ = some snaps →
    ∃ (T : Nat → Fr) (M : Nat → H) (V : Nat → AV), T 0 = τ ∧ M 0 = σ ∧ (∀ (i : Nat) (o : AR), l[i]? = some o → o.step cf base (T i) (M i) = some (V i, M (i + 1)) ∧ T (i + 1) = dput o.dst (V i) (T i)) ∧
      (∀ (i : Nat), i ≤ l.length → snaps[i]? = some (T i, M i)) ∧ last8 snaps = some (T l.length, M l.length) := by
  intro l
  induction l with
  | nil =>
    intro τ σ snaps h
    cases h
    exact ⟨fun _ => τ, fun _ => σ, fun _ => uv, rfl, rfl, fun i o h => by simp at h, fun i hi => by rw [show i = 0 by simpa using hi]; rfl, rfl⟩
  | cons o l ih =>
    intro τ σ snaps h
    change o.run cf none (fun τ' σ' => Option.rec (motive := fun _ => Option (List (Fr × H))) none (fun r => some ((τ, σ) :: r)) (runS cf base l τ' σ')) base τ σ = some snaps at h
    rw [AR.run_eq] at h
    cases hs : o.step cf base τ σ with
    | none => rw [hs] at h; cases h
    | some p =>
      obtain ⟨v, σ1⟩ := p
      rw [hs] at h
      simp only at h
      cases hr : runS cf base l (dput o.dst v τ) σ1 with
      | none => rw [hr] at h; cases h
      | some r =>
        rw [hr] at h
        have h : some ((τ, σ) :: r) = some snaps := h
        cases h
        obtain ⟨T, M, V, h1, h2, h3, h4, h5⟩ := ih hr
        refine ⟨fun i => match i with | 0 => τ | i + 1 => T i, fun i => match i with | 0 => σ | i + 1 => M i, fun i => match i with | 0 => v | i + 1 => V i, rfl, rfl, fun i o' ho => ?_, fun i hi => ?_, ?_⟩
        · cases i with
          | zero =>
            simp only [List.getElem?_cons_zero, Option.some.injEq] at ho
            subst ho
            simp only
            rw [h2, h1]
            exact ⟨hs, rfl⟩
          | succ i => exact h3 i o' (by simpa using ho)
        · cases i with
          | zero => rfl
          | succ i => simpa using h4 i (by simpa using hi)
        · show Option.rec (motive := fun _ => Option (Fr × H)) (some (τ, σ)) (fun y => some y) (last8 r) = _
          rw [h5]; rfl
theorem runL_lane {cf : I3 → List AV → H → Option (AV × H)} {base : Id} : ∀ {l : List AR} {τ : Fr} {σ : H} {τ' : Fr} {σ' : H}, runL cf base l τ σ = some (τ', σ') →
    ∃ snaps, runS cf base l τ σ = some snaps ∧ last8 snaps = some (τ', σ') := by
  intro l
  induction l with
  | nil => intro τ σ τ' σ' h; cases h; exact ⟨_, rfl, rfl⟩
  | cons o l ih =>
    intro τ σ τ' σ' h
    change o.run cf none (runL cf base l) base τ σ = some (τ', σ') at h
    rw [AR.run_eq] at h
    show ∃ snaps, o.run cf none (fun τ' σ' => Option.rec (motive := fun _ => Option (List (Fr × H))) none (fun r => some ((τ, σ) :: r)) (runS cf base l τ' σ')) base τ σ = some snaps ∧ _
    rw [AR.run_eq]
    cases hs : o.step cf base τ σ with
    | none => rw [hs] at h; cases h
    | some p =>
      obtain ⟨v, σ1⟩ := p
      rw [hs] at h
      simp only at h ⊢
      obtain ⟨r, h1, h2⟩ := ih h
      rw [h1]
      refine ⟨(τ, σ) :: r, rfl, ?_⟩
      show Option.rec (motive := fun _ => Option (Fr × H)) (some (τ, σ)) (fun y => some y) (last8 r) = _
      rw [h2]
/-- What is asked of a run in a region whose order is open. -/
theorem xReg_spec {cf : I3 → List AV → H → Option (AV × H)} {r : Nat} {chk : List (Nat × List Nat)} {l : List AR} {τ : Fr} {σ : H} {x : X} (h : xReg cf r chk l τ σ = x) (hne : x ≠ .no) :
    ∃ n' snaps, σ.n.plus r = some n' ∧ runS cf σ.n l τ ⟨n', σ.m⟩ = some snaps ∧ chk.all (chk1 σ.n snaps l) = true ∧ xOut (last8 snaps) = x := by
  unfold xReg at h
  cases hn : σ.n.plus r with
  | none => rw [hn] at h; exact absurd h.symm hne
  | some n' =>
    rw [hn] at h
    cases chk with
    | nil =>
      replace h : xOut (runL cf σ.n l τ ⟨n', σ.m⟩) = x := h
      cases hr : runL cf σ.n l τ ⟨n', σ.m⟩ with
      | none => rw [hr] at h; exact absurd h.symm hne
      | some p =>
        obtain ⟨snaps, h1, h2⟩ := runL_lane (τ' := p.1) (σ' := p.2) hr
        exact ⟨n', snaps, rfl, h1, rfl, by rw [h2, ← h, hr]⟩
    | cons c chk =>
      replace h : Option.rec (motive := fun _ => X) .no (fun snaps => ite8 ((c :: chk).all (chk1 σ.n snaps l)) (xOut (last8 snaps)) .no) (runS cf σ.n l τ ⟨n', σ.m⟩) = x := h
      cases hr : runS cf σ.n l τ ⟨n', σ.m⟩ with
      | none => rw [hr] at h; exact absurd h.symm hne
      | some snaps =>
        rw [hr] at h
        replace h : ite8 ((c :: chk).all (chk1 σ.n snaps l)) (xOut (last8 snaps)) .no = x := h
        cases ha : (c :: chk).all (chk1 σ.n snaps l) with
        | false => rw [ha] at h; exact absurd h.symm hne
        | true => rw [ha] at h; exact ⟨n', snaps, rfl, hr, ha, h⟩
theorem arsOf_get {P : Program} {N : Nat} {ops : Array Oper} : ∀ {rs : List (Option Nat)} {ol : List Oper} {l : List AR}, arsOf P N ops rs ol = some l →
    l.length = ol.length ∧ ∀ (i : Nat) (o : Oper), ol[i]? = some o → ∃ r ar, rs[i]? = some r ∧ l[i]? = some ar ∧ arOf P N ops r o = some ar := by
  intro rs
  induction rs with
  | nil => intro ol l h; cases ol with
    | nil => cases h; exact ⟨rfl, fun i o ho => by simp at ho⟩
    | cons o ol => cases h
  | cons r rs ih => intro ol l h; cases ol with
    | nil => cases h
    | cons o ol =>
      unfold arsOf at h
      split at h
      · rename_i ar r' h1 h2
        cases h
        obtain ⟨h3, h4⟩ := ih h2
        refine ⟨by simp [h3], fun i o' ho => ?_⟩
        cases i with
        | zero => simp only [List.getElem?_cons_zero, Option.some.injEq] at ho; subst ho; exact ⟨r, ar, rfl, rfl, h1⟩
        | succ i => simpa using h4 i o' (by simpa using ho)
      · cases h
theorem rsvOf_spec : ∀ {ol : List Oper} {n : Nat}, (∀ (i k : Nat), (rsvOf.go ol n)[i]? = some (some k) → n ≤ k ∧ k < n + ((rsvOf.go ol n).filter (·.isSome)).length) ∧
    ∀ (i j k : Nat), (rsvOf.go ol n)[i]? = some (some k) → (rsvOf.go ol n)[j]? = some (some k) → i = j := by
  intro ol
  induction ol with
  | nil => intro n; exact ⟨fun i k h => by simp [rsvOf.go] at h, fun i j k h => by simp [rsvOf.go] at h⟩
  | cons o ol ih =>
    intro n
    have cases2 : (rsvOf.go (o :: ol) n = none :: rsvOf.go ol n) ∨ (rsvOf.go (o :: ol) n = some n :: rsvOf.go ol (n + 1)) := by
      simp only [rsvOf.go]
      split <;> first
        | exact .inr rfl
        | exact .inl rfl
    rcases cases2 with e | e
    · rw [e]
      obtain ⟨h1, h2⟩ := ih (n := n)
      refine ⟨fun i k h => ?_, fun i j k h h' => ?_⟩
      · cases i with
        | zero => simp at h
        | succ i => simpa using h1 i k (by simpa using h)
      · cases i with
        | zero => simp at h
        | succ i => cases j with
          | zero => simp at h'
          | succ j => rw [h2 i j k (by simpa using h) (by simpa using h')]
    · rw [e]
      obtain ⟨h1, h2⟩ := ih (n := n + 1)
      refine ⟨fun i k h => ?_, fun i j k h h' => ?_⟩
      · cases i with
        | zero => simp at h; subst h; simp
        | succ i =>
          have := h1 i k (by simpa using h)
          simp; omega
      · cases i with
        | zero =>
          cases j with
          | zero => rfl
          | succ j =>
            simp at h; subst h
            have := h1 j _ (by simpa using h')
            omega
        | succ i => cases j with
          | zero =>
            simp at h'; subst h'
            have := h1 i _ (by simpa using h)
            omega
          | succ j => rw [h2 i j k (by simpa using h) (by simpa using h')]
theorem rsvOf_len : ∀ {ol : List Oper} {n : Nat}, (rsvOf.go ol n).length = ol.length := by
  intro ol
  induction ol with
  | nil => intro n; rfl
  | cons o ol ih => intro n; simp only [rsvOf.go]; split <;> simp [ih]
theorem rsv_kd {o : AO} (h : o.kd ≠ .float) : o.rsv = none := by
  cases o <;> first
    | rfl
    | (rename_i r _; cases r; rfl; exact absurd rfl h)
    | (rename_i r _ _ _ _; cases r; rfl; exact absurd rfl h)
theorem predsOf_spec : ∀ {ol : List Oper} {acc : List (List Nat)}, (predsOf.go ol acc).length = acc.length + ol.length ∧ (∀ i, i < acc.length → (predsOf.go ol acc)[i]? = acc[i]?) ∧
    ∀ (i : Nat) (o : Oper), ol[i]? = some o → ∃ l, (predsOf.go ol acc)[acc.length + i]? = some l ∧ ∀ x ∈ l, ∃ e ∈ o.after.toList, Region.binds .any e = true ∧ (x = e.on ∨ x ∈ ((predsOf.go ol acc)[e.on]?).getD []) := by
  intro ol
  induction ol with
  | nil => intro acc; exact ⟨by simp [predsOf.go], fun i hi => rfl, fun i o h => by simp at h⟩
  | cons p ol ih =>
    intro acc
    simp only [predsOf.go]
    generalize hx : ((p.after.toList.filter (Region.binds .any)).flatMap fun e => e.on :: (acc[e.on]?).getD []).eraseDups = x
    obtain ⟨h1, h2, h3⟩ := ih (acc := acc ++ [x])
    have hlow : ∀ i, i < acc.length → (predsOf.go ol (acc ++ [x]))[i]? = acc[i]? := fun i hi => by
      rw [h2 i (by simp; omega), List.getElem?_append_left hi]
    refine ⟨by rw [h1]; simp; omega, hlow, fun i o ho => ?_⟩
    cases i with
    | zero =>
      simp only [List.getElem?_cons_zero, Option.some.injEq] at ho
      subst ho
      refine ⟨x, ?_, fun y hy => ?_⟩
      · rw [Nat.add_zero, h2 _ (by simp)]; simp
      · rw [← hx, List.mem_eraseDups, List.mem_flatMap] at hy
        obtain ⟨e, he, hy⟩ := hy
        rw [List.mem_filter] at he
        refine ⟨e, he.1, he.2, ?_⟩
        rcases List.mem_cons.1 hy with hy | hy
        · exact .inl hy
        · refine .inr ?_
          rcases Nat.lt_or_ge e.on acc.length with h5 | h5
          · rw [hlow _ h5]; exact hy
          · rw [List.getElem?_eq_none h5] at hy; simp at hy
    | succ i =>
      obtain ⟨l, h4, h5⟩ := h3 i o (by simpa using ho)
      refine ⟨l, ?_, h5⟩
      rw [← h4]; congr 1; simp; omega
end Go.Dk
namespace Go.Dk
open Go
variable [Keep]
theorem float_nocall {o : AO} {base : Id} {τ : Fr} {σ : H} (h : o.kd = .float) {k : I3} {args : List AV} : o.run base τ σ ≠ .call k args := by
  have nb : ∀ {j : Nat} {x : Blk} {kk : Id → AV}, newB (some j) base x kk σ ≠ .call k args := fun {j x kk} hr => by
    change Option.rec (motive := fun _ => OR) .no (fun b => .ok (kk b) (σ.put b (some x))) (base.plus j) = .call k args at hr
    cases hb : base.plus j with
    | none => rw [hb] at hr; cases hr
    | some b => rw [hb] at hr; cases hr
  intro hr
  cases o <;> try (cases h; done)
  · rename_i r x
    cases r with
    | none => cases h
    | some j =>
      change (ev τ x).asCells .no (fun l => newB (some j) base (cellsB l) (fun b => .ptr b 0) σ) = .call k args at hr
      cases hx : ev τ x <;> rw [hx] at hr <;> first | cases hr; done | exact nb hr
  · rename_i r e n z ps
    cases r with
    | none => cases h
    | some j =>
      change Option.rec (motive := fun _ => OR) .no (fun l => newB (some j) base (cellsB l) (fun b => .slice b 0 n e (some n)) σ) (fillP τ ps z) = .call k args at hr
      cases hf : fillP τ ps z with
      | none => rw [hf] at hr; cases hr
      | some l => rw [hf] at hr; exact nb hr
theorem step_float {cf : I3 → List AV → H → Option (AV × H)} {o : AR} {base : Id} {τ : Fr} {σ σ' : H} {v : AV} (hk : o.op.kd = .float) (hs : o.step cf base τ σ = some (v, σ')) :
    ∃ f : Option (Id × Blk), (∀ σ2, o.step cf base τ σ2 = some (v, putO f σ2)) ∧ ∀ b x, f = some (b, x) → o.op.rsv.bind base.plus = some b := by
  unfold AR.step at hs ⊢
  cases hw : want o.guard τ with
  | false => rw [hw] at hs; cases hs; exact ⟨none, fun _ => rfl, fun b x h => by cases h⟩
  | true =>
    rw [hw] at hs
    simp only at hs
    cases hr : o.op.run base τ σ with
    | no => rw [hr] at hs; cases hs
    | call k args => exact absurd hr (float_nocall hk)
    | ok v1 σ1 =>
      rw [hr] at hs
      simp only at hs
      cases hs
      obtain ⟨j, b, x, h1, h2, h3, h4⟩ := float_run hk hr
      exact ⟨some (b, x), fun σ2 => by rw [h4]; rfl, fun b' x' h => by cases h; rw [h1]; exact h2⟩
theorem step_pure {cf : I3 → List AV → H → Option (AV × H)} {o : AR} {base : Id} {τ : Fr} {σ σ' : H} {v : AV} (hk : o.op.kd = .pure) (hs : o.step cf base τ σ = some (v, σ')) :
    σ' = σ ∧ ∀ σ2, o.step cf base τ σ2 = some (v, σ2) := by
  unfold AR.step at hs ⊢
  cases hw : want o.guard τ with
  | false => rw [hw] at hs; cases hs; exact ⟨rfl, fun _ => rfl⟩
  | true =>
    rw [hw] at hs
    simp only at hs
    cases hr : o.op.run base τ σ with
    | no => rw [hr] at hs; cases hs
    | call k args => obtain ⟨v', h, _⟩ := pure_run hk hr (by simp); cases h
    | ok v1 σ1 =>
      obtain ⟨v', h, h2⟩ := pure_run hk hr (by simp)
      cases h
      rw [hr] at hs
      cases hs
      exact ⟨rfl, fun σ2 => by rw [h2]⟩
theorem step_read {cf : I3 → List AV → H → Option (AV × H)} {o : AR} {base : Id} {τ : Fr} {σ σ' : H} {v : AV} (hk : o.op.kd = .read) (hs : o.step cf base τ σ = some (v, σ')) : σ' = σ := by
  unfold AR.step at hs
  cases hw : want o.guard τ with
  | false => rw [hw] at hs; cases hs; rfl
  | true =>
    rw [hw] at hs
    simp only at hs
    cases hr : o.op.run base τ σ with
    | no => rw [hr] at hs; cases hs
    | call k args => obtain ⟨v', h⟩ := read_run hk hr (by simp); cases h
    | ok v1 σ1 =>
      obtain ⟨v', h⟩ := read_run hk hr (by simp)
      cases h
      rw [hr] at hs
      cases hs; rfl
theorem kd_float_iff {k : Kd} : (match some k with | some .float | some .chain => true | _ => false) = true ↔ (k = .chain ∨ k = .float) := by cases k <;> simp
section
variable {P : Program} {N : Nat}
theorem reg_R {cf : I3 → List AV → H → Option (AV × H)} (hcf : CallR P cf) (hmix : P.follows .mixedOrders = true) {id : Nat} {ops : Array Oper} {l : List AR} (hl : arsOf P N ops (rsvOf ops.toList) ops.toList = some l)
    (hdr : drawOk ops.toList l (l.map (·.op.kd)) (predsOf ops.toList) = true) (hrs : l.map (·.op.rsv) = rsvOf ops.toList)
    {φ : Emb} {σ : H} {w : World} {τ : Fr} {a : Act} (hT : TR φ N τ a) (hH : HR φ σ w) {τ' : Fr} {σ' : H}
    (hx : xReg cf ((rsvOf ops.toList).filter (·.isSome)).length (chkOf (l.map (·.op.kd)) (predsOf ops.toList)) l τ σ = .nrm τ' σ') {Q : Exit → Act → World → Prop} (hQ : Nxt N (From σ.n.num) φ σ w (Q .normal) τ' σ') :
    (Code.region id ops true).wp P Q a w := by
  obtain ⟨hlen, hget⟩ := arsOf_get hl
  have hlen : l.length = ops.size := by rw [hlen]; simp
  obtain ⟨n', snaps, hn', hrun, hchk, hx⟩ := xReg_spec hx (by simp)
  have hnum' := Id.plus_num hn'
  have h512s : ops.size ≤ 512 := by
    have hdr := hdr
    unfold drawOk at hdr
    rw [Bool.and_eq_true] at hdr
    simpa using Nat.le_of_ble_eq_true hdr.1
  obtain ⟨T, M, V, hT0, hM0, hst, hsn, hlast⟩ := runS_lane hrun
  rw [hlast] at hx
  have hx : X.nrm (T l.length) (M l.length) = X.nrm τ' σ' := hx
  cases hx
  -- the row
  let dflt : AR := ⟨none, none, .mv (.c uv)⟩
  let O : Nat → AR := fun i => l.getD i dflt
  have hO : ∀ i, i < ops.size → l[i]? = some (O i) := fun i hi => by
    show l[i]? = some (l.getD i dflt)
    rw [List.getD_eq_getElem?_getD, List.getElem?_eq_getElem (by omega)]; rfl
  have hOover : ∀ i, ops.size ≤ i → (O i).op.kd = .pure := fun i hi => by
    show (l.getD i dflt).op.kd = .pure
    rw [List.getD_eq_getElem?_getD, List.getElem?_eq_none (by omega)]; rfl
  let rs : Nat → Option Nat := fun i => ((rsvOf ops.toList)[i]?).getD none
  have hrsO : ∀ i, i < ops.size → (O i).op.rsv = rs i := fun i hi => by
    show (O i).op.rsv = ((rsvOf ops.toList)[i]?).getD none
    rw [← hrs, List.getElem?_map, hO i hi]; rfl
  let pr : Nat → List Nat := fun i => ((predsOf ops.toList)[i]?).getD []
  have hstep : ∀ i, i < ops.size → (O i).step cf σ.n (T i) (M i) = some (V i, M (i + 1)) ∧ T (i + 1) = dput (O i).dst (V i) (T i) := fun i hi => hst i (O i) (hO i hi)
  have hfl : ∀ i, ∃ f : Option (Id × Blk), (i < ops.size → (O i).op.kd = .float → ∀ σ2, (O i).step cf σ.n (T i) σ2 = some (V i, putO f σ2)) ∧ ((O i).op.kd ≠ .float → f = none) ∧ ∀ b x, i < ops.size → f = some (b, x) → (O i).op.rsv.bind σ.n.plus = some b := fun i => by
    by_cases hk : i < ops.size ∧ (O i).op.kd = .float
    · obtain ⟨f, h1, h2⟩ := step_float hk.2 (hstep i hk.1).1
      exact ⟨f, fun _ _ => h1, fun h => absurd hk.2 h, fun b x _ => h2 b x⟩
    · exact ⟨none, fun h1 h2 => absurd ⟨h1, h2⟩ hk, fun _ => rfl, fun b x _ h => by cases h⟩
  let fb : Nat → Option (Id × Blk) := fun i => Classical.choose (hfl i)
  have hfb1 : ∀ i, i < ops.size → (O i).op.kd = .float → ∀ σ2, (O i).step cf σ.n (T i) σ2 = some (V i, putO (fb i) σ2) := fun i => (Classical.choose_spec (hfl i)).1
  have hfb2 : ∀ i, (O i).op.kd ≠ .float → fb i = none := fun i => (Classical.choose_spec (hfl i)).2.1
  have hfb3 : ∀ i b x, i < ops.size → fb i = some (b, x) → (O i).op.rsv.bind σ.n.plus = some b := fun i => (Classical.choose_spec (hfl i)).2.2
  let R : Row := { cf, base := σ.n, n := ops.size, O, T, M, V, fb, pr }
  have hdrawn : ∀ j, j < ops.size → ∃ y, ops[j]? = some y ∧ (predsOf ops.toList)[j]? = some (pr j) ∧ (∀ e ∈ y.after.toList, Region.binds .any e = true → e.on < j) ∧ ∀ i, i < j → pairOk l (l.map (·.op.kd)) (pr j) i j = true := fun j hj => by
    have hdr := hdr
    unfold drawOk at hdr
    rw [Bool.and_eq_true, List.all_eq_true] at hdr
    have h1 := hdr.2 j (by simpa using hj)
    have e1 : ops.toList[j]? = some ops[j] := by simp [hj]
    obtain ⟨lp, e2, _⟩ := (predsOf_spec (ol := ops.toList) (acc := [])).2.2 j ops[j] e1
    rw [List.length_nil, Nat.zero_add] at e2
    have e2 : (predsOf ops.toList)[j]? = some lp := e2
    have e3 : pr j = lp := by show ((predsOf ops.toList)[j]?).getD [] = lp; rw [e2]; rfl
    rw [e1, e2] at h1
    simp only [Bool.and_eq_true, List.all_eq_true] at h1
    refine ⟨ops[j], by simp [hj], by rw [e2, e3], fun e he hb => ?_, fun i hi => ?_⟩
    · have := h1.1 e he
      rw [hb] at this
      simpa using this
    · rw [e3]; exact h1.2 i (by simpa using hi)
  have hpspec : ∀ j y, ops[j]? = some y → ∀ x ∈ pr j, ∃ e ∈ y.after.toList, Region.binds .any e = true ∧ (x = e.on ∨ x ∈ pr e.on) := fun j y hy x hx => by
    have e1 : ops.toList[j]? = some y := by simpa using hy
    obtain ⟨lp, e2, h2⟩ := (predsOf_spec (ol := ops.toList) (acc := [])).2.2 j y e1
    rw [List.length_nil, Nat.zero_add] at e2
    have e2' : (predsOf ops.toList)[j]? = some lp := e2
    have e3 : pr j = lp := by show ((predsOf ops.toList)[j]?).getD [] = lp; rw [e2']; rfl
    exact h2 x (e3 ▸ hx)
  have hbelow : ∀ j, j < ops.size → ∀ x, x ∈ pr j → x < j := by
    intro j
    induction j using Nat.strongRecOn with
    | ind j ih =>
      intro hj x hx
      obtain ⟨y, hy, _, hlt, _⟩ := hdrawn j hj
      obtain ⟨e, he, hb, hor⟩ := hpspec j y hy x hx
      have := hlt e he hb
      rcases hor with rfl | hor
      · exact this
      · have := ih e.on this (by omega) x hor
        omega
  have hkd : ∀ i, i < ops.size → (l.map (·.op.kd))[i]? = some (O i).op.kd := fun i hi => by rw [List.getElem?_map, hO i hi]; rfl
  have heff : ∀ i, i < ops.size → (effAt (l.map (·.op.kd)) i = true ↔ R.eff i) := fun i hi => by
    unfold effAt
    rw [hkd i hi]
    exact kd_float_iff
  have hst1 : ∀ i, i < ops.size → ¬ R.eff i → M (i + 1) = M i := fun i hi he => by
    cases hk : (O i).op.kd with
    | pure => exact (step_pure hk (hstep i hi).1).1
    | read => exact step_read hk (hstep i hi).1
    | chain => exact absurd (.inl hk) he
    | float => exact absurd (.inr hk) he
  have hok : R.Ok := {
    step := fun i hi => (hstep i hi).1
    slot := fun i hi => (hstep i hi).2
    flt := fun i hi hk => hfb1 i hi hk
    nofb := fun i hk => hfb2 i hk
    still := fun i hi he => hst1 i hi he
    pure := fun i hi hk => (step_pure hk (hstep i hi).1).2
    apart := fun i j hij hj => by
      obtain ⟨y, hy, _, _, hp⟩ := hdrawn j hj
      have h1 := hp i hij
      unfold pairOk at h1
      rw [Bool.or_eq_true] at h1
      rcases h1 with h1 | h1
      · exact .inl (by simpa using h1)
      · rw [hO i (by have : j < ops.size := hj; omega), hO j hj] at h1
        simp only [Bool.and_eq_true, Bool.not_eq_true'] at h1
        refine .inr ⟨h1.1, fun ⟨he, hc⟩ => ?_⟩
        have e1 := (heff i (by have : j < ops.size := hj; omega)).2 he
        have e2 : chainAt (l.map (·.op.kd)) j = true := by
          unfold chainAt
          rw [hkd j hj]
          have hc : (O j).op.kd = .chain := hc
          rw [hc]
        rw [e1, e2] at h1
        simp at h1
    distinct := fun i j hij hj b x c y h1 h2 e => by
      subst e
      have hj : j < ops.size := hj
      have g1 := hfb3 i b x (by omega) h1
      have g2 := hfb3 j b y hj h2
      rw [hrsO i (by omega)] at g1
      rw [hrsO j hj] at g2
      cases e1 : rs i with
      | none => rw [e1] at g1; cases g1
      | some k1 =>
        cases e2 : rs j with
        | none => rw [e2] at g2; cases g2
        | some k2 =>
          rw [e1] at g1; rw [e2] at g2
          have n1 := Id.plus_num (show σ.n.plus k1 = some b from g1)
          have n2 := Id.plus_num (show σ.n.plus k2 = some b from g2)
          have ek : k1 = k2 := by omega
          subst ek
          have f : ∀ q, rs q = some k1 → (rsvOf.go ops.toList 0)[q]? = some (some k1) := fun q hq => by
            change ((rsvOf.go ops.toList 0)[q]?).getD none = some k1 at hq
            cases hh : (rsvOf.go ops.toList 0)[q]? with
            | none => rw [hh] at hq; cases hq
            | some z => rw [hh] at hq; simp at hq; rw [hq]
          have := rsvOf_spec.2 i j k1 (f i e1) (f j e2)
          omega
    reads := fun i hi hk q hq hat hno hall => by
      have hi' : i < ops.size := hi
      have hq' : q ≤ ops.size := hq
      have hkk : (O i).op.kd = .read := hk
      have hnoeff : ¬ R.eff i := fun he => by
        rcases he with he | he
        · have he : (O i).op.kd = .chain := he
          rw [hkk] at he; cases he
        · have he : (O i).op.kd = .float := he
          rw [hkk] at he; cases he
      have again : ∀ σ2, (want (O i).guard (T i) = true → ∃ v v' s s', (O i).op.run σ.n (T i) (M i) = .ok v s ∧ (O i).op.run σ.n (T i) σ2 = .ok v' s' ∧ sameAV v v' = true) → (O i).step cf σ.n (T i) σ2 = some (V i, σ2) := fun σ2 hg => by
        have hs := (hstep i hi).1
        unfold AR.step at hs ⊢
        cases hw : want (O i).guard (T i) with
        | false =>
          rw [hw] at hs
          have e : V i = uv := (Prod.ext_iff.1 (Option.some.inj hs)).1.symm
          rw [e]
        | true =>
          obtain ⟨v, v', s, s', h1, h2, h3⟩ := hg hw
          rw [hw, h1] at hs
          rw [h2]
          simp only at hs ⊢
          have e : v = V i := (Prod.ext_iff.1 (Option.some.inj hs)).1
          obtain ⟨_, h4⟩ := read_run hkk h2 (by simp)
          cases h4
          rw [← sameAV_eq h3, e]
      have hz0 : (∀ j, q ≤ j → j ∉ pr i) → R.Z i q = M q := fun hj => by
        have : ∀ d, Row.tl R (R.leans i) q d = [] := by
          intro d
          induction d with
          | zero => rfl
          | succ d ih =>
            show Row.tl R (R.leans i) q d ++ (if R.leans i (q + d) then (R.fb (q + d)).toList else []) = []
            have : R.leans i (q + d) = false := by
              show (pr i).contains (q + d) = false
              simpa using hj (q + d) (by omega)
            rw [ih, this]; rfl
        show puts (Row.tl R (R.leans i) q (R.n - q)) (M q) = M q
        rw [this]; rfl
      have hfl1 : ∀ d, q + d ≤ ops.size → (flOf (l.map (·.op.kd)) (predsOf ops.toList) i q d).flatMap (fun j => (fb j).toList) = Row.tl R (R.leans i) q d := by
        intro d
        induction d with
        | zero => intro _; rfl
        | succ d ih =>
          intro hd
          have hle : ((predsOf ops.toList)[i]?.getD []).contains (q + d) = R.leans i (q + d) := rfl
          show (flOf (l.map (·.op.kd)) (predsOf ops.toList) i q d ++ (if (match (l.map (·.op.kd))[q + d]? with | some .float => true | _ => false) && ((predsOf ops.toList)[i]?.getD []).contains (q + d) then [q + d] else [])).flatMap (fun j => (fb j).toList) = Row.tl R (R.leans i) q d ++ (if R.leans i (q + d) then (fb (q + d)).toList else [])
          rw [List.flatMap_append, ih (by omega), hkd (q + d) (by omega), hle]
          cases hf : (O (q + d)).op.kd with
          | float => cases R.leans i (q + d) <;> simp
          | _ => rw [hfb2 (q + d) (by rw [hf]; simp)]; cases R.leans i (q + d) <;> simp
      have hfl2 : ∀ d, q + d ≤ ops.size → ∀ j, j ∈ flOf (l.map (·.op.kd)) (predsOf ops.toList) i q d → j < ops.size ∧ (O j).op.kd = .float := by
        intro d
        induction d with
        | zero => intro _ j hj; cases hj
        | succ d ih =>
          intro hd j hj
          replace hj : j ∈ flOf (l.map (·.op.kd)) (predsOf ops.toList) i q d ++ (if (match (l.map (·.op.kd))[q + d]? with | some .float => true | _ => false) && ((predsOf ops.toList)[i]?.getD []).contains (q + d) then [q + d] else []) := hj
          rcases List.mem_append.1 hj with hj | hj
          · exact ih (by omega) j hj
          · rw [hkd (q + d) (by omega)] at hj
            cases hf : (O (q + d)).op.kd with
            | float =>
              rw [hf] at hj
              have e : j = q + d := by
                simp only [Bool.true_and] at hj
                split at hj
                · simpa using hj
                · cases hj
              rw [e]; exact ⟨by omega, hf⟩
            | _ => rw [hf] at hj; simp at hj
      have hlay : ∀ js : List Nat, (∀ j ∈ js, j < ops.size ∧ (O j).op.kd = .float) → ∀ σ2, layF σ.n snaps l js σ2 = some (puts (js.flatMap fun j => (fb j).toList) σ2) := by
        intro js
        induction js with
        | nil => intro _ σ2; rfl
        | cons j js ih =>
          intro hjs σ2
          obtain ⟨hj1, hj2⟩ := hjs j (by simp)
          have hp : puts (fb j).toList σ2 = putO (fb j) σ2 := by cases fb j <;> rfl
          rw [List.flatMap_cons, Row.puts_append, hp, ← ih fun j' h => hjs j' (by simp [h])]
          show (match nth8 l j, nth8 snaps j with
            | some o, some (τ, _) => if want o.guard τ then (match o.op.run σ.n τ σ2 with | .ok _ σ' => layF σ.n snaps l js σ' | _ => none) else layF σ.n snaps l js σ2
            | _, _ => none) = _
          rw [nth8_eq, nth8_eq, hO j hj1, hsn j (by omega)]
          simp only
          have hs := hfb1 j hj1 hj2 σ2
          unfold AR.step at hs
          cases hw : want (O j).guard (T j) with
          | false =>
            rw [hw] at hs
            have : σ2 = putO (fb j) σ2 := (Prod.ext_iff.1 (Option.some.inj hs)).2
            rw [if_neg (by simp), ← this]
          | true =>
            rw [hw] at hs
            rw [if_pos rfl]
            cases hr : (O j).op.run σ.n (T j) σ2 with
            | no => rw [hr] at hs; cases hs
            | call k args => exact absurd hr (float_nocall hj2)
            | ok v s =>
              rw [hr] at hs
              have : s = putO (fb j) σ2 := (Prod.ext_iff.1 (Option.some.inj hs)).2
              rw [this]
      show (O i).step cf σ.n (T i) (R.Z i q) = some (V i, R.Z i q)
      by_cases hbetw : q < i ∨ ∃ j, i < j ∧ j < q ∧ R.eff j
      · have eZ : R.Z i q = puts ((flAt (l.map (·.op.kd)) (predsOf ops.toList) i q).flatMap fun j => (fb j).toList) (M q) := by
          have e1 : (l.map (·.op.kd)).length = ops.size := by rw [List.length_map, hlen]
          unfold flAt
          rw [e1, hfl1 _ (by omega)]
          rfl
        have h512 : i < 512 := by omega
        rw [List.all_eq_true] at hchk
        have hqm : q ∈ qsOf (l.map (·.op.kd)) (predsOf ops.toList) i := by
          unfold qsOf
          rw [List.mem_filter, List.mem_range, List.length_map, hlen]
          refine ⟨by omega, ?_⟩
          have split4 : ∀ {A B C D : Bool}, A = true → B = true → C = true → D = true → (A && B && C && D) = true := fun h1 h2 h3 h4 => by rw [h1, h2, h3, h4]; rfl
          refine split4 ?_ ?_ ?_ ?_
          · rw [Bool.or_eq_true]
            rcases hat with h2 | h2
            · exact .inl (by rw [h2]; simp [R])
            · by_cases h3 : q < ops.size
              · refine .inr ?_
                rw [hkd q h3]
                exact kd_float_iff.2 h2
              · exact .inl (by simp; omega)
          · rw [Bool.not_eq_true']
            have : q ∉ pr i := hno
            simpa [pr] using this
          · rw [List.all_eq_true]
            intro j hj
            have hj : j < q := by simpa using hj
            rw [hkd j (by omega)]
            cases hkj : (O j).op.kd with
            | pure => rfl
            | read => rfl
            | float =>
              have : i ∉ pr j := hall j hj (.inr hkj)
              simpa [pr] using this
            | chain =>
              have : i ∉ pr j := hall j hj (.inl hkj)
              simpa [pr] using this
          · rw [Bool.or_eq_true]
            rcases hbetw with h2 | ⟨j, h2, h3, h4⟩
            · exact .inl (by simpa using h2)
            · refine .inr ?_
              rw [List.any_eq_true]
              exact ⟨j, by simpa using h3, by rw [Bool.and_eq_true]; exact ⟨by simpa using h2, (heff j (by omega)).2 h4⟩⟩
        by_cases hfe : (flAt (l.map (·.op.kd)) (predsOf ops.toList) i q).isEmpty = true
        · have hq2 : q ∈ (qsOf (l.map (·.op.kd)) (predsOf ops.toList) i).filter fun q => (flAt (l.map (·.op.kd)) (predsOf ops.toList) i q).isEmpty := List.mem_filter.2 ⟨hqm, hfe⟩
          have hmem : (i, (qsOf (l.map (·.op.kd)) (predsOf ops.toList) i).filter fun q => (flAt (l.map (·.op.kd)) (predsOf ops.toList) i q).isEmpty) ∈ chkOf (l.map (·.op.kd)) (predsOf ops.toList) := by
            unfold chkOf
            rw [List.mem_flatMap]
            refine ⟨i, by rw [List.mem_range, List.length_map, hlen]; exact hi, ?_⟩
            rw [hkd i hi, hkk, if_pos rfl]
            unfold chkAt
            rw [List.mem_append]
            refine .inl ?_
            rw [if_neg (fun h => by rw [List.isEmpty_iff.1 h] at hq2; cases hq2)]
            simp
          have h1 := hchk _ hmem
          have e5 : Nat.ble 512 i = false := by
            cases h : Nat.ble 512 i with
            | false => rfl
            | true => have := Nat.le_of_ble_eq_true h; omega
          unfold chk1 at h1
          simp only at h1
          rw [e5] at h1
          replace h1 : chk0 σ.n snaps l (i, (qsOf (l.map (·.op.kd)) (predsOf ops.toList) i).filter fun q => (flAt (l.map (·.op.kd)) (predsOf ops.toList) i q).isEmpty) = true := h1
          unfold chk0 at h1
          simp only [nth8_eq] at h1
          rw [hO i hi, hsn i (by omega)] at h1
          simp only at h1
          rw [eZ, List.isEmpty_iff.1 hfe]
          show (O i).step cf σ.n (T i) (M q) = some (V i, M q)
          refine again _ fun hw => ?_
          rw [if_pos hw] at h1
          cases hr : (O i).op.run σ.n (T i) (M i) with
          | no => rw [hr] at h1; cases h1
          | call k args => rw [hr] at h1; cases h1
          | ok v s =>
            rw [hr] at h1
            simp only at h1
            rw [List.all_eq_true] at h1
            have h3 := h1 q hq2
            rw [hsn q (by omega)] at h3
            simp only at h3
            cases hr2 : (O i).op.run σ.n (T i) (M q) with
            | no => rw [hr2] at h3; cases h3
            | call k args => rw [hr2] at h3; cases h3
            | ok v' s' => rw [hr2] at h3; exact ⟨v, v', s, s', rfl, rfl, h3⟩
        · have hmem : (i + 512, q :: flAt (l.map (·.op.kd)) (predsOf ops.toList) i q) ∈ chkOf (l.map (·.op.kd)) (predsOf ops.toList) := by
            unfold chkOf
            rw [List.mem_flatMap]
            refine ⟨i, by rw [List.mem_range, List.length_map, hlen]; exact hi, ?_⟩
            rw [hkd i hi, hkk, if_pos rfl]
            unfold chkAt
            rw [List.mem_append]
            refine .inr ?_
            rw [List.mem_map]
            exact ⟨q, List.mem_filter.2 ⟨hqm, by simpa using hfe⟩, rfl⟩
          have h1 := hchk _ hmem
          have e5 : Nat.ble 512 (i + 512) = true := Nat.ble_eq_true_of_le (by omega)
          have e6 : Nat.sub (i + 512) 512 = i := Nat.add_sub_cancel i 512
          unfold chk1 at h1
          simp only at h1
          rw [e5, e6] at h1
          replace h1 : chk2 σ.n snaps l i (q :: flAt (l.map (·.op.kd)) (predsOf ops.toList) i q) = true := h1
          unfold chk2 at h1
          simp only [nth8_eq] at h1
          rw [hO i hi, hsn i (by omega)] at h1
          simp only at h1
          refine again _ fun hw => ?_
          rw [if_pos hw] at h1
          cases hr : (O i).op.run σ.n (T i) (M i) with
          | no => rw [hr] at h1; cases h1
          | call k args => rw [hr] at h1; cases h1
          | ok v s =>
            rw [hr] at h1
            simp only at h1
            rw [hsn q (by omega)] at h1
            simp only at h1
            rw [hlay (flAt (l.map (·.op.kd)) (predsOf ops.toList) i q) (fun j hj => hfl2 ((l.map (·.op.kd)).length - q) (by rw [List.length_map, hlen]; omega) j hj), ← eZ] at h1
            simp only at h1
            cases hr2 : (O i).op.run σ.n (T i) (R.Z i q) with
            | no => rw [hr2] at h1; cases h1
            | call k args => rw [hr2] at h1; cases h1
            | ok v' s' => rw [hr2] at h1; exact ⟨v, v', s, s', rfl, rfl, h1⟩
      · have hstill : ∀ d, i + d ≤ ops.size → (∀ j, i ≤ j → j < i + d → ¬ R.eff j) → M (i + d) = M i := by
          intro d
          induction d with
          | zero => intro _ _; rfl
          | succ d ih =>
            intro hd hne
            show M (i + d + 1) = M i
            rw [hst1 (i + d) (by omega) (hne _ (by omega) (by omega)), ih (by omega) fun j h1 h2 => hne j h1 (by omega)]
        have e : M q = M i := by
          have hqi : i ≤ q := Nat.le_of_not_lt fun h => hbetw (.inl h)
          have := hstill (q - i) (by omega) fun j h1 h2 he => by
            by_cases e : j = i
            · exact hnoeff (e ▸ he)
            · exact hbetw (.inr ⟨j, by omega, by omega, he⟩)
          rwa [show i + (q - i) = q by omega] at this
        have ez : R.Z i q = M q := hz0 fun j h1 h2 => by
          have hqi : i ≤ q := Nat.le_of_not_lt fun h => hbetw (.inl h)
          have := hbelow i hi j h2
          omega
        rw [ez, e, (hstep i hi).1, hst1 i hi hnoeff]
    below := hbelow }
  have hrsk : ∀ i k, rs i = some k → (rsvOf.go ops.toList 0)[i]? = some (some k) := fun q k hq => by
    change ((rsvOf.go ops.toList 0)[q]?).getD none = some k at hq
    cases hh : (rsvOf.go ops.toList 0)[q]? with
    | none => rw [hh] at hq; cases hq
    | some z => rw [hh] at hq; simp at hq; rw [hq]
  have hrnum : ∀ i b, (rs i).bind σ.n.plus = some b → ∃ k, rs i = some k ∧ b.num = σ.n.num + k ∧ k < ((rsvOf ops.toList).filter (·.isSome)).length := fun i b hb => by
    cases e : rs i with
    | none => rw [e] at hb; cases hb
    | some k =>
      rw [e] at hb
      have h1 := Id.plus_num (show σ.n.plus k = some b from hb)
      have h2 := rsvOf_spec.1 i k (hrsk i k e)
      exact ⟨k, rfl, h1, by unfold rsvOf; omega⟩
  have hof : R.Of P N ops rs := {
    size := rfl
    at' := fun i hi => by
      obtain ⟨y, hy, _, hlt, _⟩ := hdrawn i hi
      obtain ⟨r, ar, h1, h2, h3⟩ := hget i y (by simpa using hy)
      rw [hO i hi] at h2
      cases h2
      refine ⟨y, hy, ?_, hpspec i y hy, hlt⟩
      have : rs i = r := by show ((rsvOf ops.toList)[i]?).getD none = r; rw [h1]; rfl
      rw [this]; exact h3
    none := fun i hi hk => by rw [← hrsO i hi]; exact rsv_kd hk
    fbid := fun i b x hi hf => by rw [← hrsO i hi]; exact hfb3 i b x hi hf
    one := fun i j b _ _ h1 h2 => by
      obtain ⟨k1, e1, n1, _⟩ := hrnum i b h1
      obtain ⟨k2, e2, n2, _⟩ := hrnum j b h2
      have : k1 = k2 := by omega
      subst this
      exact rsvOf_spec.2 i j k1 (hrsk i k1 e1) (hrsk j k1 e2)
    num := fun i b _ h1 => by
      obtain ⟨k1, e1, n1, h2⟩ := hrnum i b h1
      show σ.n.num ≤ b.num ∧ b.num < (M 0).n.num
      rw [hM0]
      exact ⟨by omega, by show b.num < n'.num; omega⟩
    base := by show σ.n.num ≤ (M 0).n.num; rw [hM0]; show σ.n.num ≤ n'.num; omega }
  have hTa : TR φ N (R.T 0) a := by show TR φ N (T 0) a; rw [hT0]; exact hT
  have hH0 : HR φ (R.M 0) w := by
    show HR φ (M 0) w
    rw [hM0]
    exact ⟨fun i hi => hH.fresh i (by have : n'.num ≤ i.num := hi; omega), hH.blk, hH.inj, hH.keep⟩
  have hfr0 : ∀ i b, i < R.n → (rs i).bind R.base.plus = some b → φ b = none := fun i b _ hb => by
    obtain ⟨k, _, h1, _⟩ := hrnum i b hb
    exact hH.fresh b (by omega)
  have hfresh : R.Fresh rs := Row.fresh hok hof hcf hTa hH0 hfr0
  refine wp_region_any hmix ?_
  have hsome : ∀ j, (Array.replicate ops.size false).getD j false = false := fun j => by
    rw [Array.getD_eq_getD_getElem?, Array.getElem?_replicate]; split <;> rfl
  refine Row.any_R (φ0 := φ) (σ0 := σ) (w0 := w) hok hof hcf hfresh (fun φ' a' w' h1 h2 h3 => ?_) ops.size _ a w.drew (by simp [R]) ?_ ?_ (Row.cnt_le _ _)
  · refine hQ φ' a' w' ?_ ?_ ?_
    · rw [hlen]; exact h1
    · rw [hlen]; exact h2
    · rw [hlen]; exact h3
  · intro j _ hj
    have hj : (Array.replicate ops.size false).getD j false = true := hj
    rw [hsome j] at hj; cases hj
  · have eF : ∀ k, R.accF (fun j => (Array.replicate ops.size false).getD j false) k = R.T 0 := by
      intro k
      induction k with
      | zero => rfl
      | succ k ih => rw [Row.accF_succ, ih]; show (if (Array.replicate ops.size false).getD k false = true then _ else _) = _; rw [hsome]; rfl
    have eM : ∀ k, R.accM (fun j => (Array.replicate ops.size false).getD j false) k = R.M 0 := by
      intro k
      induction k with
      | zero => rfl
      | succ k ih => rw [Row.accM_succ, ih]; show (if (Array.replicate ops.size false).getD k false = true then _ else _) = _; rw [hsome]; rfl
    refine ⟨φ, ?_, ?_, ?_, fun f b hf _ hb => hfr0 f b hf hb⟩
    · rw [eF]; exact hTa
    · rw [eM]; exact hH0.drew
    · rw [eM]
      show Fm (From σ.n.num) φ σ w φ (M 0) w.drew
      rw [hM0]
      exact { (Fm.drew : Fm (From σ.n.num) φ σ w φ σ w.drew) with n := by show σ.n.num ≤ n'.num; omega }
end
end Go.Dk
namespace Go.Dk
open Go
variable [Keep]
section
variable {P : Program} {N : Nat} {Q : Exit → Act → World → Prop}
/-! A loop, from within -/
def LoopWp (P : Program) (c : Code) (Q : Exit → Act → World → Prop) (a : Act) (w : World) : Prop :=
  ∀ (b : Frame) (k : List Item) (cs : List Frame), ∃ e a' w', Q e a' w' ∧ Arrives P (lone (b.at a (.code c :: .inLoop c :: k)) cs w) b k cs e a' w'
theorem loopWp_step {c : Code} {a : Act} {w : World} (h : c.wp P (Exit.then (LoopWp P c Q) Q) a w) : LoopWp P c Q a w := by
  intro b k cs
  obtain ⟨e, a₁, w₁, hq, harr⟩ := h b (.inLoop c :: k) cs
  cases e with
  | normal =>
    obtain ⟨e₂, a₂, w₂, hq₂, harr₂⟩ := hq b k cs
    exact ⟨e₂, a₂, w₂, hq₂, .of_steps (Steps.trans harr (.one step_inLoop)) harr₂⟩
  | exit id => exact ⟨_, a₁, w₁, hq, .pass (x := .inLoop c) rfl (fun _ _ => .inl (by simp)) harr⟩
  | goto l => exact ⟨_, a₁, w₁, hq, .pass (x := .inLoop c) rfl (fun _ _ => .inl (by simp)) harr⟩
  | ret => exact ⟨_, a₁, w₁, hq, .pass (x := .inLoop c) rfl (fun _ _ => .inl (by simp)) harr⟩
  | panic ch => exact ⟨_, a₁, w₁, hq, .pass (x := .inLoop c) rfl (fun _ _ => .inl (by simp)) harr⟩
  | outgrown => exact ⟨_, a₁, w₁, hq, .pass (x := .inLoop c) rfl (fun _ _ => .inl (by simp)) harr⟩
theorem wp_of_loopWp {c : Code} {a : Act} {w : World} (h : LoopWp P c Q a w) : (Code.loop c).wp P Q a w := fun b k cs =>
  let ⟨e, a', w', hq, harr⟩ := h b k cs; ⟨e, a', w', hq, .of_steps (.one step_loop) harr⟩
/-! Code -/
def XQ (N : Nat) (m : Id → Prop) (φ : Emb) (σ : H) (w : World) (x : X) (Q : Exit → Act → World → Prop) : Prop :=
  match x with
  | .no => False
  | .nrm τ' σ' => Nxt N m φ σ w (Q .normal) τ' σ'
  | .brk id τ' σ' => Nxt N m φ σ w (Q (.exit id)) τ' σ'
  | .ret τ' σ' => Nxt N m φ σ w (Q .ret) τ' σ'
theorem Nxt.shift {φ φ1 : Emb} {σ σ1 : H} {w w1 : World} {K : Act → World → Prop} {τ' : Fr} {σ' : H} (h : Nxt N (From σ.n.num) φ σ w K τ' σ') (hF : Fm (From σ.n.num) φ σ w φ1 σ1 w1) : Nxt N (From σ1.n.num) φ1 σ1 w1 K τ' σ' :=
  fun φ2 a2 w2 h1 h2 h3 => h φ2 a2 w2 h1 h2 (hF.trans (h3.weaken fun _ hb => Nat.le_trans hF.n hb))
theorem XQ.shift {φ φ1 : Emb} {σ σ1 : H} {w w1 : World} {x : X} (h : XQ N (From σ.n.num) φ σ w x Q) (hF : Fm (From σ.n.num) φ σ w φ1 σ1 w1) : XQ N (From σ1.n.num) φ1 σ1 w1 x Q := by
  cases x with
  | no => exact h
  | nrm τ' σ' => exact Nxt.shift h hF
  | brk id τ' σ' => exact Nxt.shift h hF
  | ret τ' σ' => exact Nxt.shift h hF
theorem acOf_cond {x : Operand} {a b : Code} {ac : AC} (h : acOf P N (.cond x a b) = some ac) : ∃ x' a' b', ac = .cond x' a' b' ∧ axOf x = some x' ∧ acOf P N a = some a' ∧ acOf P N b = some b' := by
  unfold acOf at h
  split at h
  · cases h; exact ⟨_, _, _, rfl, ‹_›, ‹_›, ‹_›⟩
  · cases h
theorem xReg_nrm {cf : I3 → List AV → H → Option (AV × H)} {r : Nat} {chk : List (Nat × List Nat)} {l : List AR} {τ : Fr} {σ : H} {x : X} (h1 : x ≠ .no) (h2 : ∀ τ' σ', x ≠ .nrm τ' σ') : xReg cf r chk l τ σ ≠ x := by
  intro e
  obtain ⟨n', snaps, _, _, _, h3⟩ := xReg_spec e h1
  cases hl : last8 snaps with
  | none => rw [hl] at h3; exact h1 h3.symm
  | some p => rw [hl] at h3; exact h2 p.1 p.2 h3.symm
theorem exec_R (hmix : P.follows .mixedOrders = true) {FT : F3 Ent} : ∀ (n : Nat), (∀ m, m < n → CallR P (callE FT (exec FT m))) → ∀ (ac : AC),
    (∀ (c : Code), acOf P N c = some ac → ∀ {φ σ w τ a} {Q : Exit → Act → World → Prop}, TR φ N τ a → HR φ σ w → XQ N (From σ.n.num) φ σ w (exec FT n ac τ σ) Q → c.wp P Q a w) ∧
    (∀ (c : Code), acOf P N c = some ac → ∀ {φ σ w τ a} {Q : Exit → Act → World → Prop}, TR φ N τ a → HR φ σ w → XQ N (From σ.n.num) φ σ w (exec FT n (.loop ac) τ σ) Q → LoopWp P c Q a w) := by
  intro n
  induction n with
  | zero => intro _ ac; exact ⟨fun c _ φ σ w τ a Q _ _ h => h.elim, fun c _ φ σ w τ a Q _ _ h => h.elim⟩
  | succ n ihn =>
    intro hcf
    replace ihn := ihn fun m hm => hcf m (by omega)
    replace hcf := hcf n (by omega)
    have loops : ∀ ac, (∀ (c : Code), acOf P N c = some ac → ∀ {φ σ w τ a} {Q : Exit → Act → World → Prop}, TR φ N τ a → HR φ σ w → XQ N (From σ.n.num) φ σ w (exec FT (n + 1) ac τ σ) Q → c.wp P Q a w) →
        ∀ (c : Code), acOf P N c = some ac → ∀ {φ σ w τ a} {Q : Exit → Act → World → Prop}, TR φ N τ a → HR φ σ w → XQ N (From σ.n.num) φ σ w (exec FT (n + 1) (.loop ac) τ σ) Q → LoopWp P c Q a w := by
      intro ac iha c hc φ σ w τ a Q hT hH h
      refine loopWp_step (iha c hc hT hH ?_)
      change XQ N _ φ σ w (X.rec (motive := fun _ => X) .no (fun τ σ => exec FT n (.loop ac) τ σ) (fun id τ σ => .brk id τ σ) (fun τ σ => .ret τ σ) (exec FT (n + 1) ac τ σ)) Q at h
      cases hx : exec FT (n + 1) ac τ σ with
      | no => rw [hx] at h; exact h
      | nrm τ1 σ1 =>
        rw [hx] at h
        exact fun φ1 a1 w1 h1 h2 h3 => (ihn ac).2 c hc h1 h2 (XQ.shift h h3)
      | brk id τ1 σ1 => rw [hx] at h; exact h
      | ret τ1 σ1 => rw [hx] at h; exact h
    have main : ∀ ac, ∀ (c : Code), acOf P N c = some ac → ∀ {φ σ w τ a} {Q : Exit → Act → World → Prop}, TR φ N τ a → HR φ σ w → XQ N (From σ.n.num) φ σ w (exec FT (n + 1) ac τ σ) Q → c.wp P Q a w := by
      intro ac
      induction ac with
      | skip =>
        intro c hc φ σ w τ a Q hT hH h
        cases c <;> try (simp [acOf] at hc; done)
        · exact wp_skip (h φ a w hT hH (Fm.refl _ _ _ _))
        · rename_i id ops d
          cases d <;> simp only [acOf] at hc
          · obtain ⟨_, _, e⟩ := Option.map_eq_some_iff.1 hc; cases e
          · split at hc <;> (try split at hc) <;> cases hc
        · simp only [acOf] at hc; split at hc <;> cases hc
        · obtain ⟨_, _, _, e, _⟩ := acOf_cond hc; cases e
      | ops l =>
        intro c hc φ σ w τ a Q hT hH h
        cases c <;> try (simp [acOf] at hc; done)
        · rename_i id ops d
          cases d <;> simp only [acOf] at hc
          · obtain ⟨l', hl, e⟩ := Option.map_eq_some_iff.1 hc
            cases e
            change XQ N _ φ σ w (xOut (runL (callE FT (exec FT n)) σ.n l τ σ)) Q at h
            cases hr : runL (callE FT (exec FT n)) σ.n l τ σ with
            | none => rw [hr] at h; exact h.elim
            | some p =>
              obtain ⟨τ', σ'⟩ := p
              rw [hr] at h
              exact wp_region_list (runL_R hcf hl hT hH (Nat.le_refl _) hr h)
          · split at hc <;> (try split at hc) <;> cases hc
        · simp only [acOf] at hc; split at hc <;> cases hc
        · obtain ⟨_, _, _, e, _⟩ := acOf_cond hc; cases e
      | reg r chk l =>
        intro c hc φ σ w τ a Q hT hH h
        cases c <;> try (simp [acOf] at hc; done)
        · rename_i id ops d
          cases d <;> simp only [acOf] at hc
          · obtain ⟨_, _, e⟩ := Option.map_eq_some_iff.1 hc; cases e
          · split at hc
            · rename_i l' hl
              split at hc
              · rename_i hd
                cases hc
                rw [Bool.and_eq_true] at hd
                change XQ N _ φ σ w (xReg (callE FT (exec FT n)) _ _ l τ σ) Q at h
                cases hr : xReg (callE FT (exec FT n)) ((rsvOf ops.toList).filter (·.isSome)).length (chkOf (l.map (·.op.kd)) (predsOf ops.toList)) l τ σ with
                | no => rw [hr] at h; exact h.elim
                | nrm τ' σ' => rw [hr] at h; exact reg_R hcf hmix hl hd.1 (of_decide_eq_true hd.2) hT hH hr h
                | brk id τ' σ' => exact absurd hr (xReg_nrm (by simp) (by simp))
                | ret τ' σ' => exact absurd hr (xReg_nrm (by simp) (by simp))
              · cases hc
            · cases hc
        · simp only [acOf] at hc; split at hc <;> cases hc
        · obtain ⟨_, _, _, e, _⟩ := acOf_cond hc; cases e
      | seq x y ihx ihy =>
        intro c hc φ σ w τ a Q hT hH h
        cases c <;> try (simp [acOf] at hc; done)
        · rename_i id ops d
          cases d <;> simp only [acOf] at hc
          · obtain ⟨_, _, e⟩ := Option.map_eq_some_iff.1 hc; cases e
          · split at hc <;> (try split at hc) <;> cases hc
        · rename_i c1 c2
          simp only [acOf] at hc
          split at hc
          · rename_i a1 a2 h1 h2
            cases hc
            refine wp_seq (ihx c1 h1 hT hH ?_)
            change XQ N _ φ σ w (X.rec (motive := fun _ => X) .no (exec FT (n + 1) y) (fun id τ σ => .brk id τ σ) (fun τ σ => .ret τ σ) (exec FT (n + 1) x τ σ)) Q at h
            cases hx : exec FT (n + 1) x τ σ with
            | no => rw [hx] at h; exact h
            | nrm τ1 σ1 =>
              rw [hx] at h
              exact fun φ1 a1 w1 g1 g2 g3 => ihy c2 h2 g1 g2 (XQ.shift h g3)
            | brk id τ1 σ1 => rw [hx] at h; exact h
            | ret τ1 σ1 => rw [hx] at h; exact h
          · cases hc
        · obtain ⟨_, _, _, e, _⟩ := acOf_cond hc; cases e
      | cond x y z ihy ihz =>
        intro c hc φ σ w τ a Q hT hH h
        cases c <;> try (simp [acOf] at hc; done)
        · rename_i id ops d
          cases d <;> simp only [acOf] at hc
          · obtain ⟨_, _, e⟩ := Option.map_eq_some_iff.1 hc; cases e
          · split at hc <;> (try split at hc) <;> cases hc
        · simp only [acOf] at hc; split at hc <;> cases hc
        · obtain ⟨x', y', z', e, h1, h2, h3⟩ := acOf_cond hc
          cases e
          have hv := evR hT h1
          change XQ N _ φ σ w ((ev τ x).asBool .no fun t => ite8 t (exec FT (n + 1) y τ σ) (exec FT (n + 1) z τ σ)) Q at h
          generalize ev τ x = q at hv h
          rename_i cx _ _
          generalize hcv : a.eval cx = v at hv
          cases hv <;> try exact h.elim
          rename_i t
          refine wp_cond hcv ?_
          cases t with
          | true => exact ihy _ h2 hT hH h
          | false => exact ihz _ h3 hT hH h
      | block id x ihx =>
        intro c hc φ σ w τ a Q hT hH h
        cases c <;> try (simp [acOf] at hc; done)
        · rename_i id ops d
          cases d <;> simp only [acOf] at hc
          · obtain ⟨_, _, e⟩ := Option.map_eq_some_iff.1 hc; cases e
          · split at hc <;> (try split at hc) <;> cases hc
        · simp only [acOf] at hc; split at hc <;> cases hc
        · obtain ⟨_, _, _, e, _⟩ := acOf_cond hc; cases e
        · simp only [acOf] at hc
          obtain ⟨x', hx', e⟩ := Option.map_eq_some_iff.1 hc
          cases e
          refine wp_block (ihx _ hx' hT hH ?_)
          change XQ N _ φ σ w (X.rec (motive := fun _ => X) .no (fun τ σ => .nrm τ σ) (fun id' τ σ => ite8 (Nat.beq id' id) (.nrm τ σ) (.brk id' τ σ)) (fun τ σ => .ret τ σ) (exec FT (n + 1) x τ σ)) Q at h
          cases hx : exec FT (n + 1) x τ σ with
          | no => rw [hx] at h; exact h
          | nrm τ1 σ1 => rw [hx] at h; exact h
          | brk id' τ1 σ1 =>
            rw [hx] at h
            have h : XQ N _ φ σ w (ite8 (Nat.beq id' id) (.nrm τ1 σ1) (.brk id' τ1 σ1)) Q := h
            intro φ1 a1 w1 g1 g2 g3
            show if id' = id then Q .normal a1 w1 else Q (.exit id') a1 w1
            by_cases e : id' = id
            · rw [if_pos e]
              rw [show Nat.beq id' id = true by rw [e]; exact Nat.beq_refl id] at h
              exact h φ1 a1 w1 g1 g2 g3
            · rw [if_neg e]
              rw [show Nat.beq id' id = false by cases hb : Nat.beq id' id with | false => rfl | true => exact absurd (Nat.eq_of_beq_eq_true hb) e] at h
              exact h φ1 a1 w1 g1 g2 g3
          | ret τ1 σ1 => rw [hx] at h; exact h
      | loop x ihx =>
        intro c hc φ σ w τ a Q hT hH h
        cases c <;> try (simp [acOf] at hc; done)
        · rename_i id ops d
          cases d <;> simp only [acOf] at hc
          · obtain ⟨_, _, e⟩ := Option.map_eq_some_iff.1 hc; cases e
          · split at hc <;> (try split at hc) <;> cases hc
        · simp only [acOf] at hc; split at hc <;> cases hc
        · obtain ⟨_, _, _, e, _⟩ := acOf_cond hc; cases e
        · simp only [acOf] at hc
          obtain ⟨x', hx', e⟩ := Option.map_eq_some_iff.1 hc
          cases e
          exact wp_of_loopWp (loops x ihx _ hx' hT hH h)
      | exit id =>
        intro c hc φ σ w τ a Q hT hH h
        cases c <;> try (simp [acOf] at hc; done)
        · rename_i id ops d
          cases d <;> simp only [acOf] at hc
          · obtain ⟨_, _, e⟩ := Option.map_eq_some_iff.1 hc; cases e
          · split at hc <;> (try split at hc) <;> cases hc
        · simp only [acOf] at hc; split at hc <;> cases hc
        · obtain ⟨_, _, _, e, _⟩ := acOf_cond hc; cases e
        · cases hc
          exact wp_exit (h φ a w hT hH (Fm.refl _ _ _ _))
      | ret =>
        intro c hc φ σ w τ a Q hT hH h
        cases c <;> try (simp [acOf] at hc; done)
        · rename_i id ops d
          cases d <;> simp only [acOf] at hc
          · obtain ⟨_, _, e⟩ := Option.map_eq_some_iff.1 hc; cases e
          · split at hc <;> (try split at hc) <;> cases hc
        · simp only [acOf] at hc; split at hc <;> cases hc
        · obtain ⟨_, _, _, e, _⟩ := acOf_cond hc; cases e
        · exact wp_ret (h φ a w hT hH (Fm.refl _ _ _ _))
    exact fun ac => ⟨main ac, loops ac (main ac)⟩

/-! Calls -/
theorem I3.of_inj {a b : Nat} (ha : a < 512) (hb : b < 512) (h : I3.of a = I3.of b) : a = b := by
  have := congrArg I3.num h
  rwa [I3.of_num ha, I3.of_num hb] at this
theorem bindA_spec : ∀ {n s : Nat} {args : List AV} {τ0 τ : Fr}, s + n ≤ 512 → bindA ((List.range' s n).map I3.of) args τ0 = some τ →
    args.length = n ∧ ∀ i : I3, get3 i τ = if s ≤ i.num ∧ i.num < s + n then args.getD (i.num - s) uv else get3 i τ0 := by
  intro n
  induction n with
  | zero =>
    intro s args τ0 τ _ h
    cases args with
    | nil => cases h; exact ⟨rfl, fun i => by rw [if_neg (by omega)]⟩
    | cons v l => cases h
  | succ n ih =>
    intro s args τ0 τ hs h
    cases args with
    | nil => cases h
    | cons v l =>
      rw [List.range'_succ, List.map_cons] at h
      obtain ⟨h1, h2⟩ := ih (s := s + 1) (by omega) (show bindA ((List.range' (s + 1) n).map I3.of) l (set3 (I3.of s) v τ0) = some τ from h)
      refine ⟨by simp [h1], fun i => ?_⟩
      rw [h2]
      by_cases e : i.num = s
      · rw [if_neg (by omega), if_pos (by omega), get_set3, if_pos (I3.num_inj (by rw [I3.of_num (by omega), e])), e]; simp
      · by_cases hin : s + 1 ≤ i.num ∧ i.num < s + 1 + n
        · rw [if_pos hin, if_pos (by omega), show i.num - s = i.num - (s + 1) + 1 by omega]; simp
        · rw [if_neg hin, if_neg (by omega), get_set3, if_neg (fun e' => e (by rw [← e', I3.of_num (by omega)]))]
theorem enter_TR {φ : Emb} {np nt : Nat} {args : List AV} {args' : List Value} {τ : Fr} (hnp : np ≤ nt) (hnt : nt ≤ 512) (hb : bindA ((List.range np).map I3.of) args emptyF = some τ) (hG : GOk φ) (hv : VRs φ args args') :
    TR φ nt τ { tmps := args'.toArray ++ Array.replicate (nt - args'.toArray.size) undef, defers := [] } := by
  rw [List.range_eq_range'] at hb
  obtain ⟨h1, h2⟩ := bindA_spec (by omega) hb
  have hl := hv.length
  refine ⟨by simp; omega, rfl, hG, fun i => ?_⟩
  rw [h2]
  show VR φ _ ((args'.toArray ++ Array.replicate (nt - args'.toArray.size) undef).getD i.num undef)
  rw [Array.getD_eq_getD_getElem?]
  by_cases hi : 0 ≤ i.num ∧ i.num < 0 + np
  · rw [if_pos hi, Array.getElem?_append_left (by simp; omega), Nat.sub_zero]
    obtain ⟨v, h3, h4⟩ := hv.get i.num (args.getD i.num uv) (by rw [List.getD_eq_getElem?_getD, List.getElem?_eq_getElem (by omega)]; rfl)
    rw [List.getElem?_toArray, h3]; exact h4
  · rw [if_neg hi]
    have : get3 i emptyF = uv := get_rep3 i uv
    rw [this, Array.getElem?_append_right (by simp; omega), Array.getElem?_replicate]
    split <;> exact uvR φ
theorem rv_R {φ : Emb} {σ : H} {w : World} {τ : Fr} {a : Act} (hT : TR φ N τ a) (hH : HR φ σ w) : ∀ {vars : List ResultVar} {rs : List RV} {l : List AV}, rvsOf P vars = some rs → resA rs τ σ = some l →
    ∃ vs, (vars.mapM (m := Sem) fun | .tmp t => pure (a.tmps.getD t undef) | .cell b t => do loadVar t (← asAddr (a.tmps.getD b undef))).run P w = .ok vs w ∧ VRs φ l vs := by
  intro vars
  induction vars with
  | nil => intro rs l h hr; cases h; cases hr; exact ⟨[], by simp, .nil⟩
  | cons x vars ih =>
    intro rs l h hr
    cases x with
    | tmp t =>
      simp only [rvsOf] at h
      split at h
      · rename_i i r h1 h2
        cases h
        change Option.rec (motive := fun _ => Option (List AV)) none (fun v => Option.rec (motive := fun _ => Option (List AV)) none (fun l => some (v :: l)) (resA r τ σ)) (some (get3 i τ)) = some l at hr
        cases hq : resA r τ σ with
        | none => rw [hq] at hr; cases hr
        | some l' =>
          rw [hq] at hr
          cases hr
          obtain ⟨vs, h3, h4⟩ := ih h2 hq
          have := hT.slot i
          rw [i3?_num h1] at this
          exact ⟨_ :: vs, by rw [List.mapM_cons]; simp only [Sem.run_bind, Sem.run_pure, Result.andThen_ok]; rw [h3]; rfl, .cons _ _ _ _ this h4⟩
      · cases h
    | cell b t =>
      simp only [rvsOf] at h
      split at h
      · rename_i i n r h1 hn h2
        cases h
        change Option.rec (motive := fun _ => Option (List AV)) none (fun v => Option.rec (motive := fun _ => Option (List AV)) none (fun l => some (v :: l)) (resA r τ σ)) (RV.get (.cell n i) τ σ) = some l at hr
        cases hg : RV.get (.cell n i) τ σ with
        | none => rw [hg] at hr; cases hr
        | some y =>
        rw [hg] at hr
        cases hq : resA r τ σ with
        | none => rw [hq] at hr; cases hr
        | some l' =>
          rw [hq] at hr
          cases hr
          obtain ⟨vs, h3, h4⟩ := ih h2 hq
          have hs := hT.slot i
          rw [i3?_num h1] at hs
          obtain ⟨d, hu, ha, hnn⟩ := aggN_R hn
          have : ∃ v, (do loadVar t (← asAddr (a.tmps.getD b undef)) : Sem Value).run P w = .ok v w ∧ VR φ y v := by
            change (get3 i τ).asPtr none (fun b o => σ.row none (fun c _ => Option.rec (motive := fun _ => Option AV) (c.get o) (fun n => Option.rec (motive := fun _ => Option AV) none (fun l => some (.agg l)) (c.take n o)) n) b) = some y at hg
            generalize get3 i τ = q at hs hg
            generalize hv : a.tmps.getD b undef = v at hs
            cases hs <;> try (cases hg; done)
            rename_i b' off c z hb
            obtain ⟨t', k, hblk, hr⟩ := H.row_eq hg (by simp)
            cases n with
            | none =>
              have hr : t'.get off = some y := hr
              obtain ⟨_, u, h5, h6⟩ := hH.cell hblk hr hb
              exact ⟨u, by simp [Sem.run_bind, asAddr, loadVar, ha w, h5], h6⟩
            | some n =>
              change Option.rec (motive := fun _ => Option AV) none (fun l => some (.agg l)) (t'.take n off) = some y at hr
              cases hg2 : t'.take n off with
              | none => rw [hg2] at hr; cases hr
              | some l2 =>
                rw [hg2] at hr
                cases hr
                obtain ⟨vs2, h5, h6, h7, _⟩ := row_take (P := P) hH hblk hb hg2
                obtain ⟨j, hj, hsz⟩ := hnn n rfl
                exact ⟨_, by simp [Sem.run_bind, asAddr, loadVar, ha w, sizeOf, typeInfo, hj, hsz, h5], .agg _ _ h6 h7⟩
          obtain ⟨v, h5, h6⟩ := this
          refine ⟨v :: vs, ?_, .cons _ _ _ _ h6 h4⟩
          rw [List.mapM_cons]
          simp only [Sem.run_bind] at h5 ⊢
          rw [h5]
          simp only [Result.andThen_ok]
          rw [h3]
          rfl
      · cases h
theorem results_R {φ : Emb} {σ : H} {w : World} {τ : Fr} {a : Act} (hT : TR φ N τ a) (hH : HR φ σ w) {fn : Func} {rs : List RV} {v : AV} {σ' : H} (h : rvsOf P fn.results.toList = some rs) (hr : resX rs τ σ = some (v, σ')) :
    σ' = σ ∧ ∃ v', (results fn a.tmps).run P w = .ok v' w ∧ VR φ v v' := by
  unfold resX at hr
  cases hq : resA rs τ σ with
  | none => rw [hq] at hr; cases hr
  | some l =>
    rw [hq] at hr
    have hr : some (tupA l, σ) = some (v, σ') := hr
    cases hr
    obtain ⟨vs, h1, h2⟩ := rv_R hT hH h hq
    refine ⟨rfl, if h : vs.length = 1 then vs[0] else .tuple vs.toArray, ?_, ?_⟩
    · unfold results
      rw [Array.mapM_eq_mapM_toList]
      simp only [Sem.run_bind, Sem.run_map]
      erw [h1]
      simp
    · cases h2 with
      | nil => exact .tup [] [] .nil
      | cons x v l l' g1 g2 =>
        cases g2 with
        | nil => simpa [tupA] using g1
        | cons x2 v2 l2 l2' g3 g4 =>
          rw [dif_neg (by simp)]
          exact .tup _ _ (.cons _ _ _ _ g1 (.cons _ _ _ _ g3 g4))
/-- What is asked of an entry. -/
def EntOk (P : Program) (k : I3) (e : Ent) : Prop :=
  match e with
  | .none => True
  | .code ps b rs => entOf P k.num = some (.code ps b rs) ∧ CallsOk P k.num
  | .law f => ∀ args σ v σ', f args σ = some (v, σ') → CallsOk P k.num ∧ ∀ φ w args', GOk φ → HR φ σ w → VRs φ args args' →
      Calls P k.num args'.toArray w fun e w' => ∃ φ' v', e = .returned v' ∧ VR φ' v v' ∧ HR φ' σ' w' ∧ Fm (From σ.n.num) φ σ w φ' σ' w'
theorem calls_R (hmix : P.follows .mixedOrders = true) {FT : F3 Ent} (hFT : ∀ k, EntOk P k (get3 k FT)) : ∀ n, CallR P (callE FT (exec FT n)) := by
  intro n
  induction n using Nat.strongRecOn with
  | ind n ih =>
    intro k args σ v σ' hc
    have hE := hFT k
    unfold callE at hc
    cases he : get3 k FT with
    | none => rw [he] at hc; cases hc
    | law f => rw [he] at hc hE; exact hE args σ v σ' hc
    | code ps b rs =>
      rw [he] at hc hE
      obtain ⟨h1, h2⟩ := hE
      refine ⟨h2, fun φ w args' hG hH hv => ?_⟩
      unfold entOf at h1
      split at h1
      · cases h1
      · rename_i fn hfn
        split at h1
        · cases h1
        · rename_i c hbody
          split at h1
          · rename_i ac rs' hac hrs
            cases hm : maxTmp fn with
            | false => rw [hm] at h1; cases h1
            | true =>
            rw [hm, if_pos rfl] at h1
            cases h1
            unfold maxTmp at hm
            rw [Bool.and_eq_true, decide_eq_true_eq, decide_eq_true_eq] at hm
            change enterE (exec FT n) args σ ((List.range (fn.params.size + fn.nfree)).map I3.of) b rs = some (v, σ') at hc
            unfold enterE at hc
            cases hb : bindA ((List.range (fn.params.size + fn.nfree)).map I3.of) args emptyF with
            | none => rw [hb] at hc; cases hc
            | some τ =>
              rw [hb] at hc
              replace hc : X.rec (motive := fun _ => Option (AV × H)) none (resX rs) (fun _ _ _ => none) (resX rs) (exec FT n b τ σ) = some (v, σ') := hc
              have hT := enter_TR (nt := fn.ntmps) hm.2 hm.1 hb hG hv
              refine calls_of_wp hfn hbody ?_
              refine (exec_R hmix n ih b).1 c hac hT hH ?_
              have fin : ∀ {τ' σ1}, resX rs τ' σ1 = some (v, σ') → ∀ {φ' a' w'}, TR φ' fn.ntmps τ' a' → HR φ' σ1 w' → Fm (From σ.n.num) φ σ w φ' σ1 w' →
                  a'.defers = [] ∧ ∃ v', (results fn a'.tmps).run P w' = .ok v' w' ∧ ∃ φ' v1, Ending.returned v' = .returned v1 ∧ VR φ' v v1 ∧ HR φ' σ' w' ∧ Fm (From σ.n.num) φ σ w φ' σ' w' := by
                intro τ' σ1 hr φ' a' w' g1 g2 g3
                obtain ⟨e, v', g4, g5⟩ := results_R g1 g2 hrs hr
                subst e
                exact ⟨g1.defers, v', g4, φ', v', rfl, g5, g2, g3⟩
              cases hx : exec FT n b τ σ with
              | no => rw [hx] at hc; cases hc
              | nrm τ' σ1 => rw [hx] at hc; exact fun φ' a' w' g1 g2 g3 => fin hc g1 g2 g3
              | brk id τ' σ1 => rw [hx] at hc; cases hc
              | ret τ' σ1 => rw [hx] at hc; exact fun φ' a' w' g1 g2 g3 => fin hc g1 g2 g3
          · cases h1
/-- A call that the machine runs, in the model. -/
theorem callN_R (hmix : P.follows .mixedOrders = true) {FT : F3 Ent} (hFT : ∀ k, EntOk P k (get3 k FT)) {n : Nat} {k : I3} {args : List AV} {σ σ' : H} {v : AV} (hc : callN FT n k args σ = some (v, σ')) {φ : Emb} {w : World} {args' : List Value} (hG : GOk φ) (hH : HR φ σ w) (hv : VRs φ args args') :
    Calls P k.num args'.toArray w fun e w' => ∃ φ' v', e = .returned v' ∧ VR φ' v v' ∧ HR φ' σ' w' ∧ Fm (From σ.n.num) φ σ w φ' σ' w' :=
  (calls_R hmix hFT n k args σ v σ' hc).2 φ w args' hG hH hv
end
end Go.Dk
namespace Go.Dk
open Go Go.RowKit
variable [Keep]
noncomputable section
/-- A law: memory stays. -/
def lawG (g : List AV → H → Option AV) (args : List AV) (σ : H) : Option (AV × H) := Option.rec (motive := fun _ => Option (AV × H)) none (fun v => some (v, σ)) (g args σ)
theorem BR.below {φ : Emb} {x : Blk} {c z : Nat} {w w' : World} (h : BR φ x c z w) (hb : Below w.heap.size w w') : BR φ x c z w' := h.mono (Sub.refl φ) (hb.block c h.lt)
theorem HR.below {φ : Emb} {σ : H} {w w' : World} (h : HR φ σ w) (hb : Below w.heap.size w w') : HR φ σ w' :=
  ⟨h.fresh, fun b x hx => let ⟨c, z, h1, h2⟩ := h.blk b x hx; ⟨c, z, h1, h2.below hb⟩, h.inj, fun k o hk => ⟨(hb.block k (Array.getElem?_eq_some_iff.1 (h.keep k o hk).1).1).trans (h.keep k o hk).1, (h.keep k o hk).2⟩⟩
theorem Fm.below {m : Id → Prop} {φ : Emb} {σ : H} {w w' : World} (hb : Below w.heap.size w w') : Fm m φ σ w φ σ w' :=
  ⟨Sub.refl φ, hb.os, hb.tape, hb.output, hb.size, fun k hk _ => hb.block k hk, fun b x c z h h' _ => ⟨b, x, z, h, h'⟩, fun _ h h' => absurd h h', Nat.le_refl _⟩
theorem ent_law {P : Program} {k : I3} {g : List AV → H → Option AV} (hok : CallsOk P k.num)
    (h : ∀ φ σ w args args' v, GOk φ → HR φ σ w → VRs φ args args' → g args σ = some v → Calls P k.num args'.toArray w fun e w' => (∃ v', e = .returned v' ∧ VR φ v v') ∧ Below w.heap.size w w') : EntOk P k (.law (lawG g)) := by
  intro args σ v σ' hf
  unfold lawG at hf
  cases hg : g args σ with
  | none => rw [hg] at hf; cases hf
  | some u =>
    rw [hg] at hf
    replace hf : some (u, σ) = some (v, σ') := hf
    cases hf
    refine ⟨hok, fun φ w args' hG hH hv => ?_⟩
    refine (h φ σ w args args' _ hG hH hv hg).mono ?_
    rintro e w' ⟨⟨v', he, hr⟩, hb⟩
    exact ⟨φ, v', he, hr, hH.below hb, Fm.below hb⟩
theorem u8_ne {x y : Nat} (hx : x < 256) (hy : y < 256) : (UInt8.ofNat x = UInt8.ofNat y) ↔ x = y := by
  constructor
  · intro h
    have := congrArg UInt8.toNat h
    simp only [UInt8.toNat_ofNat'] at this
    omega
  · intro h; rw [h]
/-! IndexByte -/
def idxN (c : Nat) (l : List Nat) : Option Nat := List.rec (motive := fun _ => Option Nat) none (fun x _ ih => ite8 (Nat.beq x c) (some 0) (Option.rec (motive := fun _ => Option Nat) none (fun n => some (Nat.succ n)) ih)) l
def idxI (o : Option Nat) : Int := Option.rec (motive := fun _ => Int) (Int.negSucc 0) (fun n => .ofNat n) o
theorem idxN_eq {c : Nat} (hc : c < 256) : ∀ {l : List Nat}, isBytes l → Lib.indexByte (l.map UInt8.ofNat) (UInt8.ofNat c) = idxI (idxN c l) := by
  intro l
  induction l with
  | nil => intro _; rfl
  | cons x l ih =>
    intro hb
    have hx : x < 256 := hb x (by simp)
    have ih := ih fun y hy => hb y (by simp [hy])
    show Lib.indexByte (UInt8.ofNat x :: l.map UInt8.ofNat) (UInt8.ofNat c) = _
    have e : idxN c (x :: l) = ite8 (Nat.beq x c) (some 0) (Option.rec (motive := fun _ => Option Nat) none (fun n => some (Nat.succ n)) (idxN c l)) := rfl
    rw [e]
    unfold Lib.indexByte
    by_cases h : x = c
    · subst h
      rw [show Nat.beq x x = true from Nat.beq_refl x]
      simp; rfl
    · rw [show Nat.beq x c = false by cases hb : Nat.beq x c with | false => rfl | true => exact absurd (Nat.eq_of_beq_eq_true hb) h]
      have h2 : ¬ (UInt8.ofNat x = UInt8.ofNat c) := fun e => h ((u8_ne hx hc).1 e)
      rw [ih]
      cases hn : idxN c l with
      | none => simp [h2, idxI]
      | some n => simp [h2, idxI]
def gIB (args : List AV) (_ : H) : Option AV := match args with | [.str l, .int .u8 (.ofNat c)] => if c < 256 then some (.int .i64 (idxI (idxN c l))) else none | _ => none
theorem law_IB {P : Program} {k : I3} (hok : CallsOk P k.num) (hc : ∀ (s : ByteArray) (c : Int) (w : World), Calls P k.num #[.string s, .int .u8 c] w fun e w' => e = .returned (.int .i64 (Lib.indexByte s.data.toList c.toNat.toUInt8)) ∧ w' = w) : EntOk P k (.law (lawG gIB)) := by
  refine ent_law hok fun φ σ w args args' v _ _ hv hg => ?_
  unfold gIB at hg
  split at hg
  · rename_i l c
    by_cases hlt : c < 256
    · rw [if_pos hlt] at hg
      cases hg
      cases hv with
      | cons _ _ _ _ h1 t1 =>
        cases t1 with
        | cons _ _ _ _ h2 t2 =>
          cases t2
          cases h1 with
          | str _ hb =>
          cases h2
          refine (hc _ _ w).mono ?_
          rintro e w' ⟨he, rfl⟩
          refine ⟨⟨_, he, ?_⟩, Below.refl _ _⟩
          rw [bstr_list]
          rw [show (Int.toNat (Int.ofNat c)).toUInt8 = UInt8.ofNat c from rfl, idxN_eq hlt hb]
          exact .int _ _
    · rw [if_neg hlt] at hg; cases hg
  · cases hg
/-! Contains -/
def preN (p : List Nat) : List Nat → Bool :=
  List.rec (motive := fun _ => List Nat → Bool) (fun _ => true) (fun x _ ih l => List.rec (motive := fun _ => Bool) false (fun y l _ => ite8 (Nat.beq x y) (ih l) false) l) p
def ctnN (p l : List Nat) : Bool := List.rec (motive := fun _ => Bool) (List.rec (motive := fun _ => Bool) true (fun _ _ _ => false) p) (fun x l ih => ite8 (preN p (x :: l)) true ih) l
theorem preN_eq : ∀ {p l : List Nat}, isBytes p → isBytes l → (p.map UInt8.ofNat).isPrefixOf (l.map UInt8.ofNat) = preN p l := by
  intro p
  induction p with
  | nil => intro l _ _; cases l <;> rfl
  | cons x p ih =>
    intro l hp hl
    cases l with
    | nil => rfl
    | cons y l =>
      have hx : x < 256 := hp x (by simp)
      have hy : y < 256 := hl y (by simp)
      have ih := ih (l := l) (fun z hz => hp z (by simp [hz])) (fun z hz => hl z (by simp [hz]))
      show (UInt8.ofNat x == UInt8.ofNat y && (p.map UInt8.ofNat).isPrefixOf (l.map UInt8.ofNat)) = ite8 (Nat.beq x y) (preN p l) false
      rw [ih]
      by_cases h : x = y
      · subst h; rw [show Nat.beq x x = true from Nat.beq_refl x]; simp
      · rw [show Nat.beq x y = false by cases hb : Nat.beq x y with | false => rfl | true => exact absurd (Nat.eq_of_beq_eq_true hb) h]
        have h2 : ¬ (UInt8.ofNat x = UInt8.ofNat y) := fun e => h ((u8_ne hx hy).1 e)
        simp [h2]
theorem ctnN_eq {p : List Nat} (hp : isBytes p) : ∀ {l : List Nat}, isBytes l → Lib.contains (l.map UInt8.ofNat) (p.map UInt8.ofNat) = ctnN p l := by
  have key : ∀ {l : List Nat}, isBytes l → (decide (0 ≤ Lib.index (l.map UInt8.ofNat) (p.map UInt8.ofNat))) = ctnN p l := by
    intro l
    induction l with
    | nil => intro _; cases p <;> rfl
    | cons x l ih =>
      intro hb
      have ih := ih fun z hz => hb z (by simp [hz])
      have hpre := preN_eq hp hb
      have e : ctnN p (x :: l) = ite8 (preN p (x :: l)) true (ctnN p l) := rfl
      rw [e, ← ih, ← hpre]
      show decide (0 ≤ Lib.index (UInt8.ofNat x :: l.map UInt8.ofNat) (p.map UInt8.ofNat)) = _
      change decide (0 ≤ (if (p.map UInt8.ofNat).isPrefixOf (UInt8.ofNat x :: l.map UInt8.ofNat) then (0 : Int) else if Lib.index (l.map UInt8.ofNat) (p.map UInt8.ofNat) == -1 then -1 else Lib.index (l.map UInt8.ofNat) (p.map UInt8.ofNat) + 1)) = _
      cases hq : (p.map UInt8.ofNat).isPrefixOf (UInt8.ofNat x :: l.map UInt8.ofNat) with
      | true => simp [hq]
      | false =>
        have hge := Lib.index_ge (l.map UInt8.ofNat) (p.map UInt8.ofNat)
        simp only [List.map_cons, hq]
        by_cases h1 : Lib.index (l.map UInt8.ofNat) (p.map UInt8.ofNat) = -1
        · simp [h1]
        · have h2 : 0 ≤ Lib.index (l.map UInt8.ofNat) (p.map UInt8.ofNat) := by omega
          simp [h1, h2]; omega
  intro l hb
  exact key hb
def gCt (args : List AV) (_ : H) : Option AV := match args with | [.str l, .str p] => if len8 l < 4294967281 then some (.bool (ctnN p l)) else none | _ => none
theorem law_Ct {P : Program} {k : I3} {g : Nat} (hk : ∃ (m : Int) (o : Obj), Keep.at' g = some o ∧ ∀ w : World, w.heap[g]? = some o → w.cell? ⟨g, 0, none⟩ = some (.int .i64 m)) (hok : CallsOk P k.num)
    (hc : ∀ (s sub : ByteArray) (m : Int) (w : World) (_ : s.size < 4294967281) (_ : w.cell? ⟨g, 0, none⟩ = some (.int .i64 m)),
    Calls P k.num #[.string s, .string sub] w fun e w' => e = .returned (.bool (Lib.contains s.data.toList sub.data.toList)) ∧ w' = w) : EntOk P k (.law (lawG gCt)) := by
  refine ent_law hok fun φ σ w args args' v hG hH hv hgv => ?_
  unfold gCt at hgv
  split at hgv
  · rename_i l p
    split at hgv
    · rename_i hcond
      cases hgv
      cases hv with
      | cons _ _ _ _ h1 t1 =>
        cases t1 with
        | cons _ _ _ _ h2 t2 =>
          cases t2
          cases h1 with
          | str _ hb =>
          cases h2 with
          | str _ hp =>
          obtain ⟨m, o, ho, hm⟩ := hk
          refine (hc _ _ m w (by rw [bstr_size, ← len8_eq]; exact hcond) (hm w (hH.keep g o ho).1)).mono ?_
          rintro e w' ⟨he, rfl⟩
          refine ⟨⟨_, he, ?_⟩, Below.refl _ _⟩
          rw [bstr_list, bstr_list, ctnN_eq hp hb]
          exact .bool _
    · cases hgv
  · cases hgv
/-! ToUpper, ToLower -/
def ble3 (a x b : Nat) : Bool := ite8 (Nat.ble a x) (Nat.ble x b) false
def upN (x : Nat) : Nat := ite8 (ble3 97 x 122) (Nat.sub x 32) x
def loN (x : Nat) : Nat := ite8 (ble3 65 x 90) (Nat.add x 32) x
def asciiN (l : List Nat) : Bool := List.rec (motive := fun _ => Bool) true (fun x _ ih => ite8 (Nat.blt x 128) ih false) l
theorem up_fin : ∀ n : Fin 128, Lib.upperB (UInt8.ofNat n.val) = UInt8.ofNat (upN n.val) ∧ upN n.val < 256 := by decide +kernel
theorem lo_fin : ∀ n : Fin 128, Lib.lowerB (UInt8.ofNat n.val) = UInt8.ofNat (loN n.val) ∧ loN n.val < 256 := by decide +kernel
theorem asciiN_eq : ∀ {l : List Nat}, asciiN l = true → ∀ x ∈ l, x < 128 := by
  intro l
  induction l with
  | nil => intro _ x hx; cases hx
  | cons y l ih =>
    intro h x hx
    change ite8 (Nat.blt y 128) (asciiN l) false = true at h
    cases hb : Nat.blt y 128 with
    | false => rw [hb] at h; cases h
    | true =>
      rw [hb] at h
      rcases List.mem_cons.1 hx with rfl | hx
      · exact Nat.le_of_ble_eq_true hb
      · exact ih h x hx
theorem ascii_map {f : UInt8 → UInt8} {g : Nat → Nat} (hf : ∀ n : Fin 128, f (UInt8.ofNat n.val) = UInt8.ofNat (g n.val) ∧ g n.val < 256) {l : List Nat} (h : asciiN l = true) : (l.map UInt8.ofNat).map f = (l.map g).map UInt8.ofNat ∧ isBytes (l.map g) := by
  have h := asciiN_eq h
  constructor
  · rw [List.map_map, List.map_map]
    exact List.map_congr_left fun x hx => (hf ⟨x, h x hx⟩).1
  · intro y hy
    obtain ⟨x, hx, rfl⟩ := List.mem_map.1 hy
    exact (hf ⟨x, h x hx⟩).2
def gMap (g : Nat → Nat) (args : List AV) (_ : H) : Option AV := match args with | [.str l] => if asciiN l = true ∧ len8 l ≤ 140737488355328 then some (.str (map8 g l)) else none | _ => none
theorem law_Map {P : Program} {k : I3} {f : UInt8 → UInt8} {g : Nat → Nat} (hf : ∀ n : Fin 128, f (UInt8.ofNat n.val) = UInt8.ofNat (g n.val) ∧ g n.val < 256) (hok : CallsOk P k.num)
    (hc : ∀ (s : ByteArray) (w : World) (_ : s.size ≤ 140737488355328) (_ : ∀ (j : Nat) (b : UInt8), s.data.toList[j]? = some b → b.toNat < 128), Calls P k.num #[.string s] w fun e w' => e = .returned (.string ⟨(s.data.toList.map f).toArray⟩) ∧ Below w.heap.size w w') : EntOk P k (.law (lawG (gMap g))) := by
  refine ent_law hok fun φ σ w args args' v _ _ hv hg => ?_
  unfold gMap at hg
  split at hg
  · rename_i l
    split at hg
    · rename_i hcond
      cases hg
      cases hv with
      | cons _ _ _ _ h1 t1 =>
        cases t1
        cases h1 with
        | str _ hb =>
        obtain ⟨h3, h4⟩ := ascii_map hf hcond.1
        refine (hc _ w (by rw [bstr_size, ← len8_eq]; exact hcond.2) (fun j b hj => ?_)).mono ?_
        · rw [bstr_list, List.getElem?_map] at hj
          cases hx : l[j]? with
          | none => rw [hx] at hj; cases hj
          | some x =>
            rw [hx] at hj
            simp only [Option.map_some, Option.some.injEq] at hj
            subst hj
            have := asciiN_eq hcond.1 x (List.mem_of_getElem? hx)
            simp only [UInt8.toNat_ofNat']
            omega
        · rintro e w' ⟨he, hbl⟩
          refine ⟨⟨_, he, ?_⟩, hbl⟩
          rw [bstr_list, h3, map8_eq]
          exact .str _ h4
    · cases hg
  · cases hg
/-! Numbers of one digit -/
def gPI (args : List AV) (_ : H) : Option AV := match args with | [.str [c], .int .i64 (.ofNat 10), .int .i64 (.ofNat 64)] => if 48 ≤ c ∧ c ≤ 57 then some (.tup [.int .i64 (.ofNat (c - 48)), .nili]) else none | _ => none
theorem pi_fin : ∀ n : Fin 10, Lib.parseIntB 64 [UInt8.ofNat (48 + n.val)] = .ok (Int.ofNat n.val) := by decide +kernel
theorem law_PI {P : Program} {k : I3} (hok : CallsOk P k.num) (e5 : TypeId) (hc : ∀ (s : ByteArray) (_ : s.size ≤ 9223372036854775806) (v : Int) (_ : Lib.parseIntB 64 s.data.toList = .ok v) (w : World),
    Calls P k.num #[.string s, .int .i64 10, .int .i64 64] w fun e w' => e = .returned (.tuple #[.int .i64 v, .nilIface]) ∧ (w' = w ∨ ∃ t, w' = Lib.bytesWorld w e5 t)) (hbel : ∀ w t, Below w.heap.size w (Lib.bytesWorld w e5 t)) : EntOk P k (.law (lawG gPI)) := by
  refine ent_law hok fun φ σ w args args' v _ _ hv hg => ?_
  unfold gPI at hg
  split at hg
  · rename_i c
    split at hg
    · rename_i hcond
      cases hg
      cases hv with
      | cons _ _ _ _ h1 t1 =>
      cases t1 with
      | cons _ _ _ _ h2 t2 =>
      cases t2 with
      | cons _ _ _ _ h3 t3 =>
        cases t3
        cases h1
        cases h2
        cases h3
        have hp := pi_fin ⟨c - 48, by omega⟩
        simp only [show 48 + (c - 48) = c by omega] at hp
        refine (hc (bstr [c]) (by rw [bstr_size]; simp) _ (by rw [bstr_list]; exact hp) w).mono ?_
        rintro e w' ⟨he, hb⟩
        refine ⟨⟨_, he, .tup [_, _] [_, _] (.cons _ _ _ _ (.int _ _) (.cons _ _ _ _ .nili .nil))⟩, ?_⟩
        rcases hb with rfl | ⟨t, rfl⟩
        · exact Below.refl _ _
        · exact hbel w t
    · cases hg
  · cases hg
def gFI (args : List AV) (_ : H) : Option AV := match args with | [.int .i64 (.ofNat n), .int .i64 (.ofNat 10)] => if n < 10 then some (.str [48 + n]) else none | _ => none
theorem law_FI {P : Program} {k : I3} (hok : CallsOk P k.num) (hc : ∀ (i : Nat) (_ : i < 100) (w : World), Calls P k.num #[.int .i64 i, .int .i64 10] w fun e w' => e = .returned (.string ⟨(Lib.decDigits i).toArray⟩) ∧ w' = w) : EntOk P k (.law (lawG gFI)) := by
  refine ent_law hok fun φ σ w args args' v _ _ hv hg => ?_
  unfold gFI at hg
  split at hg
  · rename_i n
    split at hg
    · rename_i hn
      cases hg
      cases hv with
      | cons _ _ _ _ h1 t1 =>
      cases t1 with
      | cons _ _ _ _ h2 t2 =>
        cases t2
        cases h1
        cases h2
        refine (hc n (by omega) w).mono ?_
        rintro e w' ⟨he, rfl⟩
        refine ⟨⟨_, he, ?_⟩, Below.refl _ _⟩
        unfold Lib.decDigits
        rw [dif_pos hn]
        exact .str [48 + n] (fun x hx => by simp at hx; omega)
    · cases hg
  · cases hg
/-! Join -/
def strsN (l : List AV) : Option (List (List Nat)) := List.rec (motive := fun _ => Option (List (List Nat))) (some []) (fun x _ ih => x.asStr none fun s => Option.rec (motive := fun _ => Option (List (List Nat))) none (fun r => some (s :: r)) ih) l
def joinT (sep : List Nat) (l : List (List Nat)) : List Nat := List.rec (motive := fun _ => List Nat) [] (fun x _ ih => app8 sep (app8 x ih)) l
def joinN (sep : List Nat) (l : List (List Nat)) : List Nat := List.rec (motive := fun _ => List Nat) [] (fun x r _ => app8 x (joinT sep r)) l
theorem joinT_eq (sep : List Nat) : ∀ l : List (List Nat), joinT sep l = (l.map (sep ++ ·)).flatten := by
  intro l
  induction l with
  | nil => rfl
  | cons x l ih =>
    show app8 sep (app8 x (joinT sep l)) = _
    rw [app8_eq, app8_eq, ih]; simp
theorem joinN_eq (sep : List Nat) (l : List (List Nat)) : (joinN sep l).map UInt8.ofNat = Lib.join (l.map (·.map UInt8.ofNat)) (sep.map UInt8.ofNat) := by
  cases l with
  | nil => rfl
  | cons x r =>
    rw [List.map_cons, Lib.join_cons]
    show (app8 x (joinT sep r)).map UInt8.ofNat = _
    rw [app8_eq, joinT_eq, List.map_append]
    congr 1
    unfold Lib.joinTail
    rw [List.map_flatten, List.map_map, List.map_map]
    congr 1
    exact List.map_congr_left fun y _ => by simp
def capOk (cap : Option Nat) (n : Nat) : Bool := match cap with | some c => decide (n ≤ c) | none => true
def gJn (args : List AV) (σ : H) : Option AV :=
  match args with
  | [.slice b o n es cap, .str sep] => if es = 1 ∧ capOk cap n = true then
      (match σ.row none (fun t _ => t.take n o) b with
      | some l => (match strsN l with | some xs => if len8 (joinN sep xs) ≤ 1099511627776 ∧ n ≤ 1099511627776 then some (.str (joinN sep xs)) else none | none => none)
      | none => none) else none
  | _ => none
theorem strsN_R {φ : Emb} : ∀ {l : List AV} {xs : List (List Nat)} {vs : List Value}, strsN l = some xs → VRs φ l vs → vs = xs.map (fun s => .string (bstr s)) ∧ ∀ s ∈ xs, isBytes s := by
  intro l
  induction l with
  | nil => intro xs vs h hv; cases h; cases hv; exact ⟨rfl, fun s hs => by cases hs⟩
  | cons x l ih =>
    intro xs vs h hv
    cases hv with
    | cons _ v _ r h1 h2 =>
      change (x.asStr none fun s => Option.rec (motive := fun _ => Option (List (List Nat))) none (fun r => some (s :: r)) (strsN l)) = some xs at h
      cases h1 <;> try (cases h; done)
      rename_i s hs
      change Option.rec (motive := fun _ => Option (List (List Nat))) none (fun r => some (s :: r)) (strsN l) = some xs at h
      cases hl : strsN l with
      | none => rw [hl] at h; cases h
      | some ys =>
        rw [hl] at h
        cases h
        obtain ⟨h3, h4⟩ := ih hl h2
        refine ⟨by rw [h3]; rfl, fun y hy => ?_⟩
        rcases List.mem_cons.1 hy with rfl | hy
        · exact hs
        · exact h4 y hy
theorem isBytes_app2 {a b : List Nat} (h : isBytes a) (k : isBytes b) : isBytes (a ++ b) := fun x hx => (List.mem_append.1 hx).elim (h x) (k x)
theorem joinN_bytes {sep : List Nat} (hs : isBytes sep) {l : List (List Nat)} (hl : ∀ s ∈ l, isBytes s) : isBytes (joinN sep l) := by
  have ht : ∀ l : List (List Nat), (∀ s ∈ l, isBytes s) → isBytes (joinT sep l) := by
    intro l
    induction l with
    | nil => intro _ x hx; cases hx
    | cons y l ih =>
      intro h
      show isBytes (app8 sep (app8 y (joinT sep l)))
      rw [app8_eq, app8_eq]
      exact isBytes_app2 hs (isBytes_app2 (h y (by simp)) (ih fun s hs => h s (by simp [hs])))
  cases l with
  | nil => intro x hx; cases hx
  | cons y l =>
    show isBytes (app8 y (joinT sep l))
    rw [app8_eq]
    exact isBytes_app2 (hl y (by simp)) (ht l fun s hs => hl s (by simp [hs]))
theorem law_Jn {P : Program} {k : I3} (hok : CallsOk P k.num) (hc : ∀ (bk o c : Nat) (xs : List ByteArray) (sep : ByteArray) (w : World) (_ : ∀ (j : Nat) x, xs[j]? = some x → w.cell? ⟨bk, o + j, none⟩ = some (.string x)) (_ : bk < w.heap.size) (_ : xs.length ≤ 140737488355328) (_ : xs.length ≤ c) (_ : (Lib.join (xs.map (·.data.toList)) sep.data.toList).length ≤ 140737488355328),
    Calls P k.num #[.slice (some ⟨bk, o, none⟩) xs.length c, .string sep] w fun e w' => e = .returned (.string ⟨(Lib.join (xs.map (·.data.toList)) sep.data.toList).toArray⟩) ∧ Below w.heap.size w w') : EntOk P k (.law (lawG gJn)) := by
  refine ent_law hok fun φ σ w args args' v _ hH hv hg => ?_
  unfold gJn at hg
  split at hg
  · rename_i b o n es cap sep
    split at hg
    · rename_i hes
      obtain ⟨rfl, hcap⟩ := hes
      split at hg
      · rename_i l hrow
        split at hg
        · rename_i xs hxs
          split at hg
          · rename_i hlen
            cases hg
            cases hv with
            | cons _ v0 _ _ h1 t1 =>
            cases t1 with
            | cons _ _ _ _ h2 t2 =>
              cases t2
              cases h2 with
              | str _ hsep =>
              have : ∃ c z cp, φ b = some (c, z) ∧ v0 = .slice (some ⟨c, o, none⟩) n cp ∧ n ≤ cp := by
                cases h1 with
                | sliceK _ _ _ _ cap' c z hb => exact ⟨c, z, cap', hb, rfl, of_decide_eq_true hcap⟩
                | sliceU _ _ _ _ cap' c z hb hn _ => exact ⟨c, z, cap', hb, rfl, hn⟩
              obtain ⟨c, z, cp, hb, rfl, hn⟩ := this
              obtain ⟨t, m, hblk, htk⟩ := H.row_eq hrow (by simp)
              obtain ⟨vs, _, g2, _, g4, g5⟩ := row_take (P := P) hH hblk hb htk
              obtain ⟨g6, g7⟩ := strsN_R hxs g2
              have hln : xs.length = n := by rw [← g4, g6]; simp
              have hlt : c < w.heap.size := by
                obtain ⟨c', z', h5, h6⟩ := hH.blk b _ hblk
                rw [hb] at h5; cases h5
                exact h6.lt
              have ejoin : Lib.join ((xs.map bstr).map (·.data.toList)) (bstr sep).data.toList = (joinN sep xs).map UInt8.ofNat := by
                rw [joinN_eq, bstr_list, List.map_map]
                first
                  | done
                  | (congr 1; done)
                  | (congr 1; exact List.map_congr_left fun s _ => bstr_list s)
              have := hc c o cp (xs.map bstr) (bstr sep) w (fun j x hj => by
                rw [List.getElem?_map] at hj
                cases hxj : xs[j]? with
                | none => rw [hxj] at hj; cases hj
                | some s =>
                  rw [hxj] at hj
                  cases hj
                  have h9 := g5 j (.string (bstr s)) (by rw [g6, List.getElem?_map, hxj]; rfl)
                  by_cases hj0 : j = 0
                  · subst hj0; simpa [Addr.add] using h9
                  · simpa [Addr.add, hj0] using h9) hlt (by simp; omega) (by simp; omega) (by rw [ejoin, List.length_map, ← len8_eq]; omega)
              rw [List.length_map, hln] at this
              refine this.mono ?_
              rintro e w' ⟨he, hbl⟩
              refine ⟨⟨_, he, ?_⟩, hbl⟩
              rw [ejoin]
              exact .str _ (joinN_bytes hsep g7)
          · cases hg
        · cases hg
      · cases hg
    · cases hg
  · cases hg
end
end Go.Dk
