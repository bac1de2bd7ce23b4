/-
  BindNames at all classes of its inputs, by the kernel; its row and its card.
-/
import Derived.Test.YtfjnaaobbgeoeaaGreatDoorJh
import Derived.Test.YtfjnaaobbgeoeaaGreatDoorCards
import Derived.Test.YtfjnaaobbgeoeaaGreatDoorTie
import Derived.WalkKit
import Derived.ProofKit
import Derived.OpenShut
import Derived.ChangeOld
import Derived.Below
import Derived.SizedLaws
import Derived.Deep.DeepHandedRow
import Derived.Lay
import Derived.Lib.LaidU8
import Derived.LaidLaws
import Derived.MakeChecks
set_option maxRecDepth 100000
set_option linter.all false
namespace Go.Dk.Run
open Go Go.Dk
theorem nm00 : nameOk 0 0 = true := by kernel_rfl
theorem nm01 : nameOk 0 1 = true := by kernel_rfl
theorem nm02 : nameOk 0 2 = true := by kernel_rfl
theorem nm03 : nameOk 0 3 = true := by kernel_rfl
theorem nm0 : ∀ b, b < 4 → nameOk 0 b = true
  | 0, _ => nm00
  | 1, _ => nm01
  | 2, _ => nm02
  | 3, _ => nm03
  | b + 4, h => absurd h (by omega)
theorem nm10 : nameOk 1 0 = true := by kernel_rfl
theorem nm11 : nameOk 1 1 = true := by kernel_rfl
theorem nm12 : nameOk 1 2 = true := by kernel_rfl
theorem nm13 : nameOk 1 3 = true := by kernel_rfl
theorem nm1 : ∀ b, b < 4 → nameOk 1 b = true
  | 0, _ => nm10
  | 1, _ => nm11
  | 2, _ => nm12
  | 3, _ => nm13
  | b + 4, h => absurd h (by omega)
theorem nm20 : nameOk 2 0 = true := by kernel_rfl
theorem nm21 : nameOk 2 1 = true := by kernel_rfl
theorem nm22 : nameOk 2 2 = true := by kernel_rfl
theorem nm23 : nameOk 2 3 = true := by kernel_rfl
theorem nm2 : ∀ b, b < 4 → nameOk 2 b = true
  | 0, _ => nm20
  | 1, _ => nm21
  | 2, _ => nm22
  | 3, _ => nm23
  | b + 4, h => absurd h (by omega)
theorem nm30 : nameOk 3 0 = true := by kernel_rfl
theorem nm31 : nameOk 3 1 = true := by kernel_rfl
theorem nm32 : nameOk 3 2 = true := by kernel_rfl
theorem nm33 : nameOk 3 3 = true := by kernel_rfl
theorem nm3 : ∀ b, b < 4 → nameOk 3 b = true
  | 0, _ => nm30
  | 1, _ => nm31
  | 2, _ => nm32
  | 3, _ => nm33
  | b + 4, h => absurd h (by omega)
theorem nm40 : nameOk 4 0 = true := by kernel_rfl
theorem nm41 : nameOk 4 1 = true := by kernel_rfl
theorem nm42 : nameOk 4 2 = true := by kernel_rfl
theorem nm43 : nameOk 4 3 = true := by kernel_rfl
theorem nm4 : ∀ b, b < 4 → nameOk 4 b = true
  | 0, _ => nm40
  | 1, _ => nm41
  | 2, _ => nm42
  | 3, _ => nm43
  | b + 4, h => absurd h (by omega)
theorem nm50 : nameOk 5 0 = true := by kernel_rfl
theorem nm51 : nameOk 5 1 = true := by kernel_rfl
theorem nm52 : nameOk 5 2 = true := by kernel_rfl
theorem nm53 : nameOk 5 3 = true := by kernel_rfl
theorem nm5 : ∀ b, b < 4 → nameOk 5 b = true
  | 0, _ => nm50
  | 1, _ => nm51
  | 2, _ => nm52
  | 3, _ => nm53
  | b + 4, h => absurd h (by omega)
theorem nm60 : nameOk 6 0 = true := by kernel_rfl
theorem nm61 : nameOk 6 1 = true := by kernel_rfl
theorem nm62 : nameOk 6 2 = true := by kernel_rfl
theorem nm63 : nameOk 6 3 = true := by kernel_rfl
theorem nm6 : ∀ b, b < 4 → nameOk 6 b = true
  | 0, _ => nm60
  | 1, _ => nm61
  | 2, _ => nm62
  | 3, _ => nm63
  | b + 4, h => absurd h (by omega)
theorem nm70 : nameOk 7 0 = true := by kernel_rfl
theorem nm71 : nameOk 7 1 = true := by kernel_rfl
theorem nm72 : nameOk 7 2 = true := by kernel_rfl
theorem nm73 : nameOk 7 3 = true := by kernel_rfl
theorem nm7 : ∀ b, b < 4 → nameOk 7 b = true
  | 0, _ => nm70
  | 1, _ => nm71
  | 2, _ => nm72
  | 3, _ => nm73
  | b + 4, h => absurd h (by omega)
theorem name_all : ∀ a, a < 8 → ∀ b, b < 4 → nameOk a b = true
  | 0, _ => nm0
  | 1, _ => nm1
  | 2, _ => nm2
  | 3, _ => nm3
  | 4, _ => nm4
  | 5, _ => nm5
  | 6, _ => nm6
  | 7, _ => nm7
  | a + 8, h => absurd h (by omega)
theorem pend_rem8 {n : Int} (hw : (Lit.int .u8 n).wf = true) (m : Nat) (hm : 0 < m) (hm2 : m < 256) : ∃ r : Nat, r < m ∧ runPend .u8 [(.rem, .ofNat m)] n = some (.ofNat r) := by
  have hb : 0 ≤ n ∧ n ≤ 255 := by
    have h := hw
    simp only [Lit.wf, Bool.and_eq_true, decide_eq_true_eq] at h
    exact ⟨h.1, h.2⟩
  obtain ⟨k, rfl⟩ := Int.eq_ofNat_of_zero_le hb.1
  have hk : k ≤ 255 := by have := hb.2; omega
  refine ⟨k % m, Nat.mod_lt _ hm, ?_⟩
  have h4 : ibin .rem .u8 (k : Int) (m : Int) = some (.int .u8 ((k : Int).tmod (m : Int))) := by
    show ite8 (ieq (m : Int) 0) none _ = _
    rw [ieq_eq]
    have : ((m : Int) == 0) = false := by simp; omega
    rw [this]
  show runPend .u8 [(.rem, (m : Int))] (k : Int) = _
  unfold runPend
  rw [h4]
  simp only
  unfold runPend
  rw [show (k : Int).tmod (m : Int) = Int.ofNat (k % m) by rw [Int.tmod_eq_emod_of_nonneg (by omega)]; simp]
noncomputable def φg : Emb := fun b => some (b.num, 0)
theorem φg_ok : GOk φg := fun b _ => ⟨0, rfl⟩
end Go.Dk.Run
namespace Go.Proofs.YtfjnaaobbgeoeaaGreatDoor.bindNames
open Go.ChangeShapes Go.WideShapes Go.ChangeAt Go.RowKit
theorem calls (W : World) (a b : Int) (wa : (Lit.int .u8 a).wf = true) (wb : (Lit.int .u8 b).wf = true) : Calls Tryz.prog 5 #[.int .u8 a, .int .u8 b] W fun e w' => e = .returned (.bool true) ∧ Below W.heap.size W w' := by
  obtain ⟨r1, h1, e1⟩ := Dk.Run.pend_rem8 wa 8 (by decide) (by decide)
  obtain ⟨r2, h2, e2⟩ := Dk.Run.pend_rem8 wb 4 (by decide) (by decide)
  exact Dk.Run.true_fresh (k := ⟨.d0, .d0, .d5⟩) (fun [Dk.Keep] => Dk.Run.okFA3) (Dk.Run.name_all r1 h1 r2 h2) Dk.Run.φg_ok (.cons _ _ _ _ (.pend _ _ _ _ e1 (by simp)) (.cons _ _ _ _ (.pend _ _ _ _ e2 (by simp)) .nil))
theorem own : ownKnob Tryz.prog.godebug = none := by kernel_rfl
theorem laidOut : laidOutB Tryz.prog = true := by kernel_rfl
theorem laid_met (os : Os) : laidMet Tryz.prog Rows.bindNamesRow.laid ((World.laidAll Tryz.prog os Rows.bindNamesRow.laid).forCall (fun _ _ => 0) ⟨#[], #[.int .u8 0, .int .u8 0], []⟩).memory :=
  laidMet_laidAll _ (by kernel_rfl) (by kernel_rfl)
theorem lifted (os : Os) (started : os.Started) (H : Type) (enc : TypeId × Value → H) (F : Stop.Interp) :
    ReturnsInHanded {} Tryz.checked os 5 .any ((OpenSpec.ofChange Rows.bindNamesSpec).preRow enc Tryz.prog Tryz.f5 Rows.bindNamesRow.domain false Rows.bindNamesRow.laid) (((OpenSpec.ofChange Rows.bindNamesSpec).at F).post enc Tryz.prog Tryz.f5 false true false false) := by
  refine returnsInHanded_of_row (C := Tryz.checked) (s := OpenSpec.ofChange Rows.bindNamesSpec) own started (by kernel_rfl) Tryz.func5
    (ChangeSpec.witness_shaped (enc := enc) (C := Tryz.checked) (os := os) (X := fun w _ => laidMetH Tryz.prog Rows.bindNamesRow.laid w) false (World.laidAll Tryz.prog os Rows.bindNamesRow.laid) #[.int .u8 0, .int .u8 0] 8 (World.laidAll_os _ _ _)
      (World.shaped_of_ZipB (by kernel_rfl) (by kernel_rfl)) (by kernel_rfl) (by kernel_rfl) (by kernel_rfl)
      (by rw [MakeChecks.laidMetH_plain _ _ _ (by kernel_rfl)]; exact laid_met os)) ?_
  intro W base args ds gs before hval0 hW hcnd _ hsz0 hL hS _
  have hval : ∀ (j : Nat) t v, Tryz.f5.params[j]? = some t → args[j]? = some v → Value.okWide Tryz.prog W .any base t v := hval0
  have hW' := hW
  obtain ⟨p, q, hA0, hV, rfl, hfz, hnd⟩ := hW
  have hA : DataW.TrodAll enc Tryz.prog W 0 (fun _ => true) true Tryz.f5.params.toList args.toList ds p := hA0
  rw [Tryz.params5] at hA hval
  obtain ⟨v0, vs0, d0, ds0, p0, q0, hargs, rfl, rfl, h0, r0⟩ := trodAll_cons hA
  obtain ⟨v1, vs1, d1, ds1, p1, q1, rfl, rfl, rfl, h1, r1⟩ := trodAll_cons r0
  obtain ⟨rfl, rfl, rfl⟩ := trodAll_nil r1
  obtain rfl : args = #[v0, v1] := by cases args; simp_all
  obtain ⟨rfl, rfl⟩ := trodVars_none hV
  obtain ⟨a0, rfl, rfl, rfl, w0⟩ := open_int Tryz.underlying5 (hval 0 5 v0 rfl rfl) h0
  obtain ⟨a1, rfl, rfl, rfl, w1⟩ := open_int Tryz.underlying5 (hval 1 5 v1 rfl rfl) h1
  clear hA0 hval0 hsz0
  refine (calls W a0 a1 w0 w1).mono fun e W' ⟨he, bel⟩ => ?_
  subst he
  exact ⟨_, rfl, _, _, _, [], _, [], hW', trodAll_mk1 (shut_bool Tryz.underlying4 _), (trodAll_cons_mk (shut_int Tryz.underlying5 w0) (trodAll_cons_mk (shut_int Tryz.underlying5 w1) trodAll_mk0)), rfl, bel.frame _, fun h => by cases h⟩
theorem said : Rows.BindNamesSaid :=
  OpenClaim.holds_of_cond 5 Tryz.f5 rfl rfl rfl rfl rfl rfl rfl ⟨rfl, rfl, rfl, rfl, rfl⟩ rfl rfl rfl rfl rfl (by kernel_rfl) Tryz.func5 (by kernel_rfl)
    (of_decide_eq_true (by kernel_rfl)) (by unfold Func.isWrapper; first | (rw [if_pos (by decide +kernel)]; kernel_rfl) | (rw [if_neg (by decide +kernel)]; exact ⟨rfl, rfl⟩))
    (fun os started H enc _ F => by rw [OpenClaim.pre_eq_preRow]; exact lifted os started H enc F)
theorem plain (f : FuncId) (fn : Func) (hf : Tryz.pinned.checked.prog.funcNamed "umlaut/umlautlaw20.BindNames" = some f) (hfn : Tryz.pinned.checked.prog.funcs[f]? = some fn) :
    false = Tryz.pinned.checked.prog.looks [] ∧ ∀ (j : Nat) t, fn.params[j]? = some t → Tryz.pinned.checked.prog.wantsStandIn t = false := by
  obtain rfl : f = 5 := Option.some.inj ((show Tryz.prog.funcNamed "umlaut/umlautlaw20.BindNames" = some 5 by kernel_rfl).symm.trans hf) |>.symm
  obtain rfl : fn = Tryz.f5 := (Option.some.inj (Tryz.func5.symm.trans hfn)).symm
  refine ⟨by kernel_rfl, fun j t ht => ?_⟩
  rw [Tryz.params5] at ht
  have hm : t ∈ [5] := by
    have := Array.mem_of_getElem? ht
    simp at this ⊢
    omega
  have hall : ([5].all fun u => !Tryz.prog.wantsStandIn u) = true := by kernel_rfl
  exact (show Tryz.prog.wantsStandIn t = false by simpa using List.all_eq_true.1 hall t hm)
theorem card : Rows.BindNamesCardSaid :=
  Claim7.holds_tied_plain_at .later [] _ _ _ _ said (fun _ h => by cases h) (by kernel_rfl) (fun _ h => by cases h) bindNames_row_tie rfl ⟨rfl, rfl⟩ (by kernel_rfl) rfl plain (by kernel_rfl)
#print axioms card
end Go.Proofs.YtfjnaaobbgeoeaaGreatDoor.bindNames
namespace Go.Proofs.YtfjnaaobbgeoeaaGreatDoor
/-- The card, under a short name, for the claim. -/
theorem bindNames_card : Rows.BindNamesCardSaid := bindNames.card
end Go.Proofs.YtfjnaaobbgeoeaaGreatDoor
