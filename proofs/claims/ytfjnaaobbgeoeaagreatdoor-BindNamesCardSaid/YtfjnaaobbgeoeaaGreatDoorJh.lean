/-
  The functions are what they are said to be; awake; classes.
-/
import Derived.Test.YtfjnaaobbgeoeaaGreatDoorJg
set_option maxRecDepth 100000
set_option linter.all false
namespace Go.Dk.Run
open Go Go.Dk Go.RowKit Go.Proofs
noncomputable section
variable [Keep]
theorem okx3 : EntOk Tryz.prog ⟨.d0, .d0, .d3⟩ x3 := ent_code (by kernel_rfl) (by kernel_rfl) rfl
theorem okx4 : EntOk Tryz.prog ⟨.d0, .d0, .d4⟩ x4 := ent_code (by kernel_rfl) (by kernel_rfl) rfl
theorem okx5 : EntOk Tryz.prog ⟨.d0, .d0, .d5⟩ x5 := ent_code (by kernel_rfl) (by kernel_rfl) rfl
theorem okx6 : EntOk Tryz.prog ⟨.d0, .d0, .d6⟩ x6 := ent_code (by kernel_rfl) (by kernel_rfl) rfl
theorem okx8 : EntOk Tryz.prog ⟨.d0, .d1, .d0⟩ x8 := ent_code (by kernel_rfl) (by kernel_rfl) rfl
theorem okx9 : EntOk Tryz.prog ⟨.d0, .d1, .d1⟩ x9 := ent_code (by kernel_rfl) (by kernel_rfl) rfl
theorem okx10 : EntOk Tryz.prog ⟨.d0, .d1, .d2⟩ x10 := ent_code (by kernel_rfl) (by kernel_rfl) rfl
theorem okx11 : EntOk Tryz.prog ⟨.d0, .d1, .d3⟩ x11 := ent_code (by kernel_rfl) (by kernel_rfl) rfl
theorem okx12 : EntOk Tryz.prog ⟨.d0, .d1, .d4⟩ x12 := ent_code (by kernel_rfl) (by kernel_rfl) rfl
theorem okx14 : EntOk Tryz.prog ⟨.d0, .d1, .d6⟩ x14 := ent_code (by kernel_rfl) (by kernel_rfl) rfl
theorem okx20 : EntOk Tryz.prog ⟨.d0, .d2, .d4⟩ x20 := ent_code (by kernel_rfl) (by kernel_rfl) rfl
theorem okx21 : EntOk Tryz.prog ⟨.d0, .d2, .d5⟩ x21 := ent_code (by kernel_rfl) (by kernel_rfl) rfl
theorem okx22 : EntOk Tryz.prog ⟨.d0, .d2, .d6⟩ x22 := ent_code (by kernel_rfl) (by kernel_rfl) rfl
theorem okx23 : EntOk Tryz.prog ⟨.d0, .d2, .d7⟩ x23 := ent_code (by kernel_rfl) (by kernel_rfl) rfl
theorem okx24 : EntOk Tryz.prog ⟨.d0, .d3, .d0⟩ x24 := ent_code (by kernel_rfl) (by kernel_rfl) rfl
theorem okx25 : EntOk Tryz.prog ⟨.d0, .d3, .d1⟩ x25 := ent_code (by kernel_rfl) (by kernel_rfl) rfl
theorem okx26 : EntOk Tryz.prog ⟨.d0, .d3, .d2⟩ x26 := ent_code (by kernel_rfl) (by kernel_rfl) rfl
theorem okx30 : EntOk Tryz.prog ⟨.d0, .d3, .d6⟩ x30 := ent_code (by kernel_rfl) (by kernel_rfl) rfl
theorem okx31 : EntOk Tryz.prog ⟨.d0, .d3, .d7⟩ x31 := ent_code (by kernel_rfl) (by kernel_rfl) rfl
theorem okx32 : EntOk Tryz.prog ⟨.d0, .d4, .d0⟩ x32 := ent_code (by kernel_rfl) (by kernel_rfl) rfl
theorem okx33 : EntOk Tryz.prog ⟨.d0, .d4, .d1⟩ x33 := ent_code (by kernel_rfl) (by kernel_rfl) rfl
theorem okx34 : EntOk Tryz.prog ⟨.d0, .d4, .d2⟩ x34 := ent_code (by kernel_rfl) (by kernel_rfl) rfl
theorem okx35 : EntOk Tryz.prog ⟨.d0, .d4, .d3⟩ x35 := ent_code (by kernel_rfl) (by kernel_rfl) rfl
theorem okx36 : EntOk Tryz.prog ⟨.d0, .d4, .d4⟩ x36 := ent_code (by kernel_rfl) (by kernel_rfl) rfl
theorem okx37 : EntOk Tryz.prog ⟨.d0, .d4, .d5⟩ x37 := ent_code (by kernel_rfl) (by kernel_rfl) rfl
theorem okx38 : EntOk Tryz.prog ⟨.d0, .d4, .d6⟩ x38 := ent_code (by kernel_rfl) (by kernel_rfl) rfl
theorem okx46 : EntOk Tryz.prog ⟨.d0, .d5, .d6⟩ x46 := ent_code (by kernel_rfl) (by kernel_rfl) rfl
theorem okx47 : EntOk Tryz.prog ⟨.d0, .d5, .d7⟩ x47 := ent_code (by kernel_rfl) (by kernel_rfl) rfl
theorem okx48 : EntOk Tryz.prog ⟨.d0, .d6, .d0⟩ x48 := ent_code (by kernel_rfl) (by kernel_rfl) rfl
theorem okx49 : EntOk Tryz.prog ⟨.d0, .d6, .d1⟩ x49 := ent_code (by kernel_rfl) (by kernel_rfl) rfl
theorem okx50 : EntOk Tryz.prog ⟨.d0, .d6, .d2⟩ x50 := ent_code (by kernel_rfl) (by kernel_rfl) rfl
theorem okx56 : EntOk Tryz.prog ⟨.d0, .d7, .d0⟩ x56 := ent_code (by kernel_rfl) (by kernel_rfl) rfl
theorem okx57 : EntOk Tryz.prog ⟨.d0, .d7, .d1⟩ x57 := ent_code (by kernel_rfl) (by kernel_rfl) rfl
theorem okx59 : EntOk Tryz.prog ⟨.d0, .d7, .d3⟩ x59 := ent_code (by kernel_rfl) (by kernel_rfl) rfl
theorem okx60 : EntOk Tryz.prog ⟨.d0, .d7, .d4⟩ x60 := ent_code (by kernel_rfl) (by kernel_rfl) rfl
theorem okx61 : EntOk Tryz.prog ⟨.d0, .d7, .d5⟩ x61 := ent_code (by kernel_rfl) (by kernel_rfl) rfl
theorem okx62 : EntOk Tryz.prog ⟨.d0, .d7, .d6⟩ x62 := ent_code (by kernel_rfl) (by kernel_rfl) rfl
theorem okx64 : EntOk Tryz.prog ⟨.d1, .d0, .d0⟩ x64 := ent_code (by kernel_rfl) (by kernel_rfl) rfl
theorem okx65 : EntOk Tryz.prog ⟨.d1, .d0, .d1⟩ x65 := ent_code (by kernel_rfl) (by kernel_rfl) rfl
theorem okx66 : EntOk Tryz.prog ⟨.d1, .d0, .d2⟩ x66 := ent_code (by kernel_rfl) (by kernel_rfl) rfl
theorem okx67 : EntOk Tryz.prog ⟨.d1, .d0, .d3⟩ x67 := ent_code (by kernel_rfl) (by kernel_rfl) rfl
theorem okx68 : EntOk Tryz.prog ⟨.d1, .d0, .d4⟩ x68 := ent_code (by kernel_rfl) (by kernel_rfl) rfl
theorem okx69 : EntOk Tryz.prog ⟨.d1, .d0, .d5⟩ x69 := ent_code (by kernel_rfl) (by kernel_rfl) rfl
theorem okx70 : EntOk Tryz.prog ⟨.d1, .d0, .d6⟩ x70 := ent_code (by kernel_rfl) (by kernel_rfl) rfl
theorem okx71 : EntOk Tryz.prog ⟨.d1, .d0, .d7⟩ x71 := ent_code (by kernel_rfl) (by kernel_rfl) rfl
theorem okx72 : EntOk Tryz.prog ⟨.d1, .d1, .d0⟩ x72 := ent_code (by kernel_rfl) (by kernel_rfl) rfl
theorem okx73 : EntOk Tryz.prog ⟨.d1, .d1, .d1⟩ x73 := ent_code (by kernel_rfl) (by kernel_rfl) rfl
theorem okx81 : EntOk Tryz.prog ⟨.d1, .d2, .d1⟩ x81 := ent_code (by kernel_rfl) (by kernel_rfl) rfl
theorem okx82 : EntOk Tryz.prog ⟨.d1, .d2, .d2⟩ x82 := ent_code (by kernel_rfl) (by kernel_rfl) rfl
theorem okx83 : EntOk Tryz.prog ⟨.d1, .d2, .d3⟩ x83 := ent_code (by kernel_rfl) (by kernel_rfl) rfl
theorem okx84 : EntOk Tryz.prog ⟨.d1, .d2, .d4⟩ x84 := ent_code (by kernel_rfl) (by kernel_rfl) rfl
theorem okx85 : EntOk Tryz.prog ⟨.d1, .d2, .d5⟩ x85 := ent_code (by kernel_rfl) (by kernel_rfl) rfl
theorem okx86 : EntOk Tryz.prog ⟨.d1, .d2, .d6⟩ x86 := ent_code (by kernel_rfl) (by kernel_rfl) rfl
theorem okx87 : EntOk Tryz.prog ⟨.d1, .d2, .d7⟩ x87 := ent_code (by kernel_rfl) (by kernel_rfl) rfl
theorem okx101 : EntOk Tryz.prog ⟨.d1, .d4, .d5⟩ x101 := ent_code (by kernel_rfl) (by kernel_rfl) rfl
theorem okx103 : EntOk Tryz.prog ⟨.d1, .d4, .d7⟩ x103 := ent_code (by kernel_rfl) (by kernel_rfl) rfl
theorem okFT3 : ∀ k : I3, EntOk Tryz.prog k (get3 k FT3) := by
  intro ⟨a, b, c⟩
  cases a
  · cases b
    · cases c
      · exact trivial
      · exact trivial
      · exact trivial
      · exact okx3
      · exact okx4
      · exact okx5
      · exact okx6
      · exact law7
    · cases c
      · exact okx8
      · exact okx9
      · exact okx10
      · exact okx11
      · exact okx12
      · exact trivial
      · exact okx14
      · exact trivial
    · cases c
      · exact trivial
      · exact trivial
      · exact trivial
      · exact trivial
      · exact okx20
      · exact okx21
      · exact okx22
      · exact okx23
    · cases c
      · exact okx24
      · exact okx25
      · exact okx26
      · exact trivial
      · exact trivial
      · exact trivial
      · exact okx30
      · exact okx31
    · cases c
      · exact okx32
      · exact okx33
      · exact okx34
      · exact okx35
      · exact okx36
      · exact okx37
      · exact okx38
      · exact trivial
    · cases c
      · exact trivial
      · exact trivial
      · exact trivial
      · exact trivial
      · exact trivial
      · exact trivial
      · exact okx46
      · exact okx47
    · cases c
      · exact okx48
      · exact okx49
      · exact okx50
      · exact trivial
      · exact trivial
      · exact trivial
      · exact trivial
      · exact trivial
    · cases c
      · exact okx56
      · exact okx57
      · exact trivial
      · exact okx59
      · exact okx60
      · exact okx61
      · exact okx62
      · exact trivial
  · cases b
    · cases c
      · exact okx64
      · exact okx65
      · exact okx66
      · exact okx67
      · exact okx68
      · exact okx69
      · exact okx70
      · exact okx71
    · cases c
      · exact okx72
      · exact okx73
      · exact trivial
      · exact trivial
      · exact trivial
      · exact trivial
      · exact trivial
      · exact trivial
    · cases c
      · exact trivial
      · exact okx81
      · exact okx82
      · exact okx83
      · exact okx84
      · exact okx85
      · exact okx86
      · exact okx87
    · cases c <;> exact trivial
    · cases c
      · exact trivial
      · exact trivial
      · exact trivial
      · exact trivial
      · exact trivial
      · exact okx101
      · exact trivial
      · exact okx103
    · cases c <;> exact trivial
    · cases c <;> exact trivial
    · cases c <;> exact trivial
  · cases b <;> cases c <;> exact trivial
  · cases b <;> cases c <;> exact trivial
  · cases b <;> cases c <;> exact trivial
  · cases b <;> cases c <;> exact trivial
  · cases b <;> cases c <;> exact trivial
  · cases b <;> cases c <;> exact trivial
end
end Go.Dk.Run
namespace Go.Dk.Run
open Go Go.Dk Go.RowKit Go.Proofs
noncomputable section
abbrev i10 : I3 := ⟨.d0, .d1, .d2⟩
def isT (o : Option (AV × H)) : Bool := match o with | some (.bool b, _) => b | _ => false
theorem isT_inv {o : Option (AV × H)} (h : isT o = true) : ∃ σ, o = some (.bool true, σ) := by
  unfold isT at h
  split at h
  · rename_i b σ; subst h; exact ⟨σ, rfl⟩
  · cases h
theorem awake3 : isT (callN FT3 100000 i10 [] σE) = true := by kernel_rfl
def gAw (args : List AV) (_ : H) : Option AV := match args with | [] => some (.bool true) | _ => none
/-- A call from empty memory that ends in 'true'. -/
theorem true_fresh {FT : F3 Ent} (hFT : ∀ [Keep] k, EntOk Tryz.prog k (get3 k FT)) {n : Nat} {k : I3} {args : List AV} (h : isT (callN FT n k args σE) = true) {φ : Emb} (hG : GOk φ) {w : World} {args' : List Value} (hv : VRs (glob φ) args args') :
    Calls Tryz.prog k.num args'.toArray w fun e w' => e = .returned (.bool true) ∧ Below w.heap.size w w' := by
  obtain ⟨σ, hrun⟩ := isT_inv h
  refine (calls_fresh mixed hFT hrun hG hv).mono ?_
  rintro e w' ⟨φ', v', rfl, h1, h2, h3⟩
  cases h1
  exact ⟨rfl, h3.os, h3.tape, h3.output, h3.size, fun k hk => kw_kept h2 hk⟩
theorem law10 [Keep] : EntOk Tryz.prog i10 (.law (lawG gAw)) := by
  refine ent_law (callsOk (by kernel_rfl)) fun φ σ w args args' v hG hH hv hg => ?_
  unfold gAw at hg
  split at hg
  · cases hg
    cases hv
    refine (true_fresh (fun [Keep] => okFT3) awake3 hG (w := w) .nil).mono ?_
    rintro e w' ⟨rfl, hb⟩
    exact ⟨⟨_, rfl, .bool true⟩, hb⟩
  · cases hg
/-- The functions, awake being known. -/
def FA3 : F3 Ent := set3 i10 (.law (lawG gAw)) FT3
theorem okFA3 [Keep] : ∀ k, EntOk Tryz.prog k (get3 k FA3) := ok_set okFT3 law10
/-! Classes -/
def pd2 (r : Nat) : AV := .pend .i64 [(.and, 3)] (.ofNat r)
def pu (m r : Nat) : AV := .pend .u8 [(.rem, .ofNat m)] (.ofNat r)
def rankOk (a b l r : Nat) : Bool := isT (callN FA3 100000 ⟨.d0, .d0, .d3⟩ [pd2 a, pd2 b, pd2 l, pd2 r] σE)
def nameOk (a b : Nat) : Bool := isT (callN FA3 100000 ⟨.d0, .d0, .d5⟩ [pu 8 a, pu 4 b] σE)
end
end Go.Dk.Run
