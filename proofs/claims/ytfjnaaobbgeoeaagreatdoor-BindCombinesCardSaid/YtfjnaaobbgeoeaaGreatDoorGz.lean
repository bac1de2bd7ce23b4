/-
  BindCombines: its row and its card.
-/
import Derived.Test.YtfjnaaobbgeoeaaGreatDoorGc
import Derived.Lib.SmallJoins
import Derived.Test.YtfjnaaobbgeoeaaGreatDoorCards
import Derived.Test.YtfjnaaobbgeoeaaGreatDoorTie
import Derived.WalkKit
import Derived.ProofKit
import Derived.OpenShut
import Derived.ChangeOld
import Derived.Below
import Derived.SizedLaws
import Derived.Deep.DeepHandedRow
import Derived.Lay
import Derived.Lib.LaidU8
import Derived.LaidLaws
import Derived.MakeChecks
set_option maxRecDepth 100000
set_option linter.all false
namespace Go.Dk.Run
open Go Go.Dk Go.RowKit Go.Proofs
noncomputable section
abbrev Comb (za : Int) (la : List Nat) (zb : Int) (lb : List Nat) : Prop := Gc FA3 9 i4 [.agg [.int .i64 za, .str la], .agg [.int .i64 zb, .str lb]] σE fun v _ => v = .bool true
theorem s8r (l : List Nat) : seq8 l l = true := by rw [seq8_eq]; exact decide_eq_true rfl
theorem s8n {l r : List Nat} (h : ¬ l = r) : seq8 l r = false := by rw [seq8_eq]; exact decide_eq_false h
theorem cc00 (la lb : List Nat) : Comb (.ofNat 0) la (.ofNat 0) lb := by
  by_cases ea : la = [98, 105, 110, 97, 114, 121]
  · subst ea
    by_cases eb : lb = [98, 105, 110, 97, 114, 121]
    · subst eb; exact c0g0g 
    · exact c0g0b lb (s8n eb)
  · skip
    by_cases eb : lb = [98, 105, 110, 97, 114, 121]
    · subst eb; exact c0b0g la (s8n ea)
    · exact c0b0b la lb (s8n ea) (s8n eb)
theorem cc01 (la lb : List Nat) : Comb (.ofNat 0) la (.ofNat 1) lb := by
  by_cases ea : la = [98, 105, 110, 97, 114, 121]
  · subst ea
    exact c0g1s lb (s8r lb)
  · skip
    exact c0b1s la lb (s8n ea) (s8r lb)
theorem cc02 (la lb : List Nat) : Comb (.ofNat 0) la (.ofNat 2) lb := by
  by_cases ea : la = [98, 105, 110, 97, 114, 121]
  · subst ea
    by_cases eb : lb = []
    · subst eb; exact c0g2g 
    · exact c0g2b lb (s8n eb)
  · skip
    by_cases eb : lb = []
    · subst eb; exact c0b2g la (s8n ea)
    · exact c0b2b la lb (s8n ea) (s8n eb)
theorem cc03 (la lb : List Nat) : Comb (.ofNat 0) la (.ofNat 3) lb := by
  by_cases ea : la = [98, 105, 110, 97, 114, 121]
  · subst ea
    exact c0g3s lb (s8r lb)
  · skip
    exact c0b3s la lb (s8n ea) (s8r lb)
theorem cc10 (la lb : List Nat) : Comb (.ofNat 1) la (.ofNat 0) lb := by
  by_cases eb : lb = [98, 105, 110, 97, 114, 121]
  · subst eb; exact c1s0g la (s8r la)
  · exact c1s0b la lb (s8r la) (s8n eb)
theorem cc11 (la lb : List Nat) : Comb (.ofNat 1) la (.ofNat 1) lb := by
  by_cases e : la = lb
  · subst e; exact c1s1se la (s8r la)
  · exact c1s1su la lb (s8r la) (s8r lb) (s8n e) (s8n fun h => e h.symm)
theorem cc12 (la lb : List Nat) : Comb (.ofNat 1) la (.ofNat 2) lb := by
  by_cases eb : lb = []
  · subst eb; exact c1s2g la (s8r la)
  · exact c1s2b la lb (s8r la) (s8n eb)
theorem cc13 (la lb : List Nat) : Comb (.ofNat 1) la (.ofNat 3) lb := by
  exact c1s3s la lb (s8r la) (s8r lb)
theorem cc20 (la lb : List Nat) : Comb (.ofNat 2) la (.ofNat 0) lb := by
  by_cases ea : la = []
  · subst ea
    by_cases eb : lb = [98, 105, 110, 97, 114, 121]
    · subst eb; exact c2g0g 
    · exact c2g0b lb (s8n eb)
  · skip
    by_cases eb : lb = [98, 105, 110, 97, 114, 121]
    · subst eb; exact c2b0g la (s8n ea)
    · exact c2b0b la lb (s8n ea) (s8n eb)
theorem cc21 (la lb : List Nat) : Comb (.ofNat 2) la (.ofNat 1) lb := by
  by_cases ea : la = []
  · subst ea
    exact c2g1s lb (s8r lb)
  · skip
    exact c2b1s la lb (s8n ea) (s8r lb)
theorem cc22 (la lb : List Nat) : Comb (.ofNat 2) la (.ofNat 2) lb := by
  by_cases ea : la = []
  · subst ea
    by_cases eb : lb = []
    · subst eb; exact c2g2g 
    · exact c2g2b lb (s8n eb)
  · skip
    by_cases eb : lb = []
    · subst eb; exact c2b2g la (s8n ea)
    · exact c2b2b la lb (s8n ea) (s8n eb)
theorem cc23 (la lb : List Nat) : Comb (.ofNat 2) la (.ofNat 3) lb := by
  by_cases ea : la = []
  · subst ea
    exact c2g3s lb (s8r lb)
  · skip
    exact c2b3s la lb (s8n ea) (s8r lb)
theorem cc30 (la lb : List Nat) : Comb (.ofNat 3) la (.ofNat 0) lb := by
  by_cases eb : lb = [98, 105, 110, 97, 114, 121]
  · subst eb; exact c3s0g la (s8r la)
  · exact c3s0b la lb (s8r la) (s8n eb)
theorem cc31 (la lb : List Nat) : Comb (.ofNat 3) la (.ofNat 1) lb := by
  exact c3s1s la lb (s8r la) (s8r lb)
theorem cc32 (la lb : List Nat) : Comb (.ofNat 3) la (.ofNat 2) lb := by
  by_cases eb : lb = []
  · subst eb; exact c3s2g la (s8r la)
  · exact c3s2b la lb (s8r la) (s8n eb)
theorem cc33 (la lb : List Nat) : Comb (.ofNat 3) la (.ofNat 3) lb := by
  by_cases e : la = lb
  · subst e; exact c3s3se la (s8r la)
  · exact c3s3su la lb (s8r la) (s8r lb) (s8n e) (s8n fun h => e h.symm)
theorem comb_all (la lb : List Nat) : ∀ za zb : Int, Comb za la zb lb
  | .negSucc n, zb => cAN n zb la lb
  | .ofNat (n + 4), zb => cAB n zb la lb
  | .ofNat 0, .negSucc n => cB0N n la lb
  | .ofNat 0, .ofNat (n + 4) => cB0B n la lb
  | .ofNat 0, .ofNat 0 => cc00 la lb
  | .ofNat 0, .ofNat 1 => cc01 la lb
  | .ofNat 0, .ofNat 2 => cc02 la lb
  | .ofNat 0, .ofNat 3 => cc03 la lb
  | .ofNat 1, .negSucc n => cB1N n la lb
  | .ofNat 1, .ofNat (n + 4) => cB1B n la lb
  | .ofNat 1, .ofNat 0 => cc10 la lb
  | .ofNat 1, .ofNat 1 => cc11 la lb
  | .ofNat 1, .ofNat 2 => cc12 la lb
  | .ofNat 1, .ofNat 3 => cc13 la lb
  | .ofNat 2, .negSucc n => cB2N n la lb
  | .ofNat 2, .ofNat (n + 4) => cB2B n la lb
  | .ofNat 2, .ofNat 0 => cc20 la lb
  | .ofNat 2, .ofNat 1 => cc21 la lb
  | .ofNat 2, .ofNat 2 => cc22 la lb
  | .ofNat 2, .ofNat 3 => cc23 la lb
  | .ofNat 3, .negSucc n => cB3N n la lb
  | .ofNat 3, .ofNat (n + 4) => cB3B n la lb
  | .ofNat 3, .ofNat 0 => cc30 la lb
  | .ofNat 3, .ofNat 1 => cc31 la lb
  | .ofNat 3, .ofNat 2 => cc32 la lb
  | .ofNat 3, .ofNat 3 => cc33 la lb
theorem comb_run (la lb : List Nat) (za zb : Int) : isT (callN FA3 9 i4 [.agg [.int .i64 za, .str la], .agg [.int .i64 zb, .str lb]] σE) = true := by
  obtain ⟨v, σ, h1, rfl⟩ := (comb_all la lb za zb).out
  show isT (callE FA3 (exec FA3 9) i4 _ σE) = true
  rw [h1]; rfl
theorem bytes_of (s : ByteArray) : ∃ l, isBytes l ∧ s = bstr l := by
  refine ⟨s.data.toList.map UInt8.toNat, fun x hx => ?_, ?_⟩
  · obtain ⟨u, _, rfl⟩ := List.mem_map.1 hx
    exact u.toNat_lt
  · have h : (UInt8.ofNat ∘ UInt8.toNat) = id := funext fun u => by simp
    unfold bstr
    rw [List.map_map, h, List.map_id]
theorem comb_calls {φ : Emb} (hG : GOk φ) (w : World) (za zb : Int) (sa sb : ByteArray) : Calls Tryz.prog 4 #[.agg #[.int .i64 za, .string sa], .agg #[.int .i64 zb, .string sb]] w fun e w' => e = .returned (.bool true) ∧ Below w.heap.size w w' := by
  obtain ⟨la, ha, rfl⟩ := bytes_of sa
  obtain ⟨lb, hb, rfl⟩ := bytes_of sb
  exact true_fresh (k := i4) (fun [Keep] => okFA3) (comb_run la lb za zb) hG (.cons _ _ _ _ (.agg _ [_, _] (.cons _ _ _ _ (.int _ _) (.cons _ _ _ _ (.str _ ha) .nil)) (by simp [AV.one])) (.cons _ _ _ _ (.agg _ [_, _] (.cons _ _ _ _ (.int _ _) (.cons _ _ _ _ (.str _ hb) .nil)) (by simp [AV.one])) .nil))
end
end Go.Dk.Run
namespace Go.Dk.Run
open Go Go.Dk
noncomputable def φg : Emb := fun b => some (b.num, 0)
theorem φg_ok : GOk φg := fun b _ => ⟨0, rfl⟩
end Go.Dk.Run
namespace Go.Proofs.YtfjnaaobbgeoeaaGreatDoor.bindCombines
open Go.ChangeShapes Go.WideShapes Go.ChangeAt Go.RowKit
theorem calls (W : World) (za zb : Int) (sa sb : ByteArray) : Calls Tryz.prog 4 #[.agg #[.int .i64 za, .string sa], .agg #[.int .i64 zb, .string sb]] W fun e w' => e = .returned (.bool true) ∧ Below W.heap.size W w' :=
  Dk.Run.comb_calls Dk.Run.φg_ok W za zb sa sb
/-- A struct of a rank and a name, taken apart and put together. -/
theorem open_deriv {H : Type} {enc : TypeId × Value → H} {w : World} {sp : Nat → Bool} {held : Bool} {b0 base : Nat} {v : Value} {d : DataW H} {p : List MemPlace} (hv : Value.okWide Tryz.prog w .any b0 34 v) (h : DataW.Trod enc Tryz.prog w base sp held 34 v d p) :
    ∃ (z : Int) (s : ByteArray), v = .agg #[.int .i64 z, .string s] ∧ p = [] ∧ ∀ (w' : World) (sp' : Nat → Bool) (held' : Bool), DataW.Trod enc Tryz.prog w' base sp' held' 34 (.agg #[.int .i64 z, .string s]) d [] := by
  obtain ⟨v0, v1, y0, y1, n, rfl, rfl, rfl, h0, h1⟩ := Joins.open_agg2 Tryz.underlying34 (by kernel_rfl) (by kernel_rfl) hv h
  obtain ⟨z, e0, rfl, wz⟩ := DataW.trod_int Tryz.underlying3 h0
  obtain ⟨s, e1, rfl, hs⟩ := DataW.trod_string Tryz.underlying9 h1
  simp at e0 e1
  subst e0 e1
  refine ⟨z, s, rfl, rfl, fun w' sp' held' => ⟨2, ?_⟩⟩
  have c34 : Tryz.prog.cellsOf 34 = 2 := by kernel_rfl
  have c3 : Tryz.prog.cellsOf 3 = 1 := by kernel_rfl
  have c9 : Tryz.prog.cellsOf 9 = 1 := by kernel_rfl
  have f0 : DataW.trod enc Tryz.prog w' base sp' held' 1 3 [.int .i64 z] = some (.lit (.int .i64 z), []) := by simp [DataW.trod, Tryz.underlying3, wz]
  have f1 : DataW.trod enc Tryz.prog w' base sp' held' 1 9 [.string s] = some (.lit (.string s.data.toList), []) := by simp [DataW.trod, Tryz.underlying9, hs]
  have := trod_struct2_mk (enc := enc) (w := w') (base := base) (spare := sp') (held := held') (n := 1) (cs := [.int .i64 z, .string s]) Tryz.underlying34 (by simp [c34]) (by simpa [c3] using f0) (by simpa [c9] using f1)
  simpa [Value.cells] using this
theorem own : ownKnob Tryz.prog.godebug = none := by kernel_rfl
theorem laidOut : laidOutB Tryz.prog = true := by kernel_rfl
theorem laid_met (os : Os) : laidMet Tryz.prog Rows.bindCombinesRow.laid ((World.laidAll Tryz.prog os Rows.bindCombinesRow.laid).forCall (fun _ _ => 0) ⟨#[], #[.agg #[.int .i64 0, .string ⟨#[]⟩], .agg #[.int .i64 0, .string ⟨#[]⟩]], []⟩).memory :=
  laidMet_laidAll _ (by kernel_rfl) (by kernel_rfl)
theorem lifted (os : Os) (started : os.Started) (H : Type) (enc : TypeId × Value → H) (F : Stop.Interp) :
    ReturnsInHanded {} Tryz.checked os 4 .any ((OpenSpec.ofChange Rows.bindCombinesSpec).preRow enc Tryz.prog Tryz.f4 Rows.bindCombinesRow.domain false Rows.bindCombinesRow.laid) (((OpenSpec.ofChange Rows.bindCombinesSpec).at F).post enc Tryz.prog Tryz.f4 false true false false) := by
  refine returnsInHanded_of_row (C := Tryz.checked) (s := OpenSpec.ofChange Rows.bindCombinesSpec) own started (by kernel_rfl) Tryz.func4
    (ChangeSpec.witness_shaped (enc := enc) (C := Tryz.checked) (os := os) (X := fun w _ => laidMetH Tryz.prog Rows.bindCombinesRow.laid w) false (World.laidAll Tryz.prog os Rows.bindCombinesRow.laid) #[.agg #[.int .i64 0, .string ⟨#[]⟩], .agg #[.int .i64 0, .string ⟨#[]⟩]] 8 (World.laidAll_os _ _ _)
      (World.shaped_of_ZipB (by kernel_rfl) (by kernel_rfl)) (by kernel_rfl) (by kernel_rfl) (by kernel_rfl)
      (by rw [MakeChecks.laidMetH_plain _ _ _ (by kernel_rfl)]; exact laid_met os)) ?_
  intro W base args ds gs before hval0 hW hcnd _ hsz0 hL hS _
  have hval : ∀ (j : Nat) t v, Tryz.f4.params[j]? = some t → args[j]? = some v → Value.okWide Tryz.prog W .any base t v := hval0
  have hW' := hW
  obtain ⟨p, q, hA0, hV, rfl, hfz, hnd⟩ := hW
  have hA : DataW.TrodAll enc Tryz.prog W 0 (fun _ => true) true Tryz.f4.params.toList args.toList ds p := hA0
  rw [Tryz.params4] at hA hval
  obtain ⟨v0, vs0, d0, ds0, p0, q0, hargs, rfl, rfl, h0, r0⟩ := trodAll_cons hA
  obtain ⟨v1, vs1, d1, ds1, p1, q1, rfl, rfl, rfl, h1, r1⟩ := trodAll_cons r0
  obtain ⟨rfl, rfl, rfl⟩ := trodAll_nil r1
  obtain rfl : args = #[v0, v1] := by cases args; simp_all
  obtain ⟨rfl, rfl⟩ := trodVars_none hV
  obtain ⟨z0, s0, rfl, rfl, k0⟩ := open_deriv (hval 0 34 v0 rfl rfl) h0
  obtain ⟨z1, s1, rfl, rfl, k1⟩ := open_deriv (hval 1 34 v1 rfl rfl) h1
  clear hA0 hval0 hsz0
  refine (calls W z0 z1 s0 s1).mono fun e W' ⟨he, bel⟩ => ?_
  subst he
  exact ⟨_, rfl, _, _, _, [], _, [], hW', trodAll_mk1 (shut_bool Tryz.underlying4 _), (trodAll_cons_mk (k0 _ _ _) (trodAll_cons_mk (k1 _ _ _) trodAll_mk0)), rfl, bel.frame _, fun h => by cases h⟩
theorem said : Rows.BindCombinesSaid :=
  OpenClaim.holds_of_cond 4 Tryz.f4 rfl rfl rfl rfl rfl rfl rfl ⟨rfl, rfl, rfl, rfl, rfl⟩ rfl rfl rfl rfl rfl (by kernel_rfl) Tryz.func4 (by kernel_rfl)
    (of_decide_eq_true (by kernel_rfl)) (by unfold Func.isWrapper; first | (rw [if_pos (by decide +kernel)]; kernel_rfl) | (rw [if_neg (by decide +kernel)]; exact ⟨rfl, rfl⟩))
    (fun os started H enc _ F => by rw [OpenClaim.pre_eq_preRow]; exact lifted os started H enc F)
theorem plain (f : FuncId) (fn : Func) (hf : Tryz.pinned.checked.prog.funcNamed "umlaut/umlautlaw20.BindCombines" = some f) (hfn : Tryz.pinned.checked.prog.funcs[f]? = some fn) :
    false = Tryz.pinned.checked.prog.looks [] ∧ ∀ (j : Nat) t, fn.params[j]? = some t → Tryz.pinned.checked.prog.wantsStandIn t = false := by
  obtain rfl : f = 4 := Option.some.inj ((show Tryz.prog.funcNamed "umlaut/umlautlaw20.BindCombines" = some 4 by kernel_rfl).symm.trans hf) |>.symm
  obtain rfl : fn = Tryz.f4 := (Option.some.inj (Tryz.func4.symm.trans hfn)).symm
  refine ⟨by kernel_rfl, fun j t ht => ?_⟩
  rw [Tryz.params4] at ht
  have hm : t ∈ [34] := by
    have := Array.mem_of_getElem? ht
    simp at this ⊢
    omega
  have hall : ([34].all fun u => !Tryz.prog.wantsStandIn u) = true := by kernel_rfl
  exact (show Tryz.prog.wantsStandIn t = false by simpa using List.all_eq_true.1 hall t hm)
theorem card : Rows.BindCombinesCardSaid :=
  Claim7.holds_tied_plain_at .later [] _ _ _ _ said (fun _ h => by cases h) (by kernel_rfl) (fun _ h => by cases h) bindCombines_row_tie rfl ⟨rfl, rfl⟩ (by kernel_rfl) rfl plain (by kernel_rfl)
#print axioms card
end Go.Proofs.YtfjnaaobbgeoeaaGreatDoor.bindCombines
namespace Go.Proofs.YtfjnaaobbgeoeaaGreatDoor
/-- The card, under a short name, for the claim. -/
theorem bindCombines_card : Rows.BindCombinesCardSaid := bindCombines.card
end Go.Proofs.YtfjnaaobbgeoeaaGreatDoor
