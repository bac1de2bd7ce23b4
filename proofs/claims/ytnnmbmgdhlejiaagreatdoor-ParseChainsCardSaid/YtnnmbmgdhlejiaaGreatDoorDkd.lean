/-
  The functions are what they are said to be; awake.
-/
import Derived.Test.YtnnmbmgdhlejiaaGreatDoorDkc
import Derived.Test.YtnnmbmgdhlejiaaGreatDoorChecked
import Derived.Test.YtnnmbmgdhlejiaaGreatDoorShelf
set_option maxRecDepth 100000
set_option linter.all false
namespace Go.Dk.Run
open Go Go.Dk Go.RowKit Go.Proofs
noncomputable section
def callsOkB (P : Program) (f : FuncId) : Bool := match P.funcs[f]? with | some fn => fn.body.isSome && decide (fn.name ≠ "runtime.NumGoroutine") | none => false
theorem callsOk {P : Program} {f : FuncId} (h : callsOkB P f = true) : CallsOk P f := by
  unfold callsOkB at h
  split at h
  · rename_i fn hf
    rw [Bool.and_eq_true] at h
    exact ⟨fn, hf, h.1, of_decide_eq_true h.2⟩
  · cases h
def isCode (e : Ent) : Bool := match e with | .code .. => true | _ => false
variable [Keep]
theorem ent_code {P : Program} {k : I3} {e : Ent} (h : entOf P k.num = some e) (hb : callsOkB P k.num = true) (hc : isCode e = true) : EntOk P k e := by
  cases e with
  | none => cases hc
  | code ps b rs => exact ⟨h, callsOk hb⟩
  | law f => cases hc
theorem ok3 : EntOk Tryz.prog ⟨.d0, .d0, .d3⟩ e3 := ent_code (by kernel_rfl) (by kernel_rfl) rfl
theorem ok4 : EntOk Tryz.prog ⟨.d0, .d0, .d4⟩ e4 := ent_code (by kernel_rfl) (by kernel_rfl) rfl
theorem ok5 : EntOk Tryz.prog ⟨.d0, .d0, .d5⟩ e5 := ent_code (by kernel_rfl) (by kernel_rfl) rfl
theorem ok6 : EntOk Tryz.prog ⟨.d0, .d0, .d6⟩ e6 := ent_code (by kernel_rfl) (by kernel_rfl) rfl
theorem ok7 : EntOk Tryz.prog ⟨.d0, .d0, .d7⟩ e7 := ent_code (by kernel_rfl) (by kernel_rfl) rfl
theorem ok8 : EntOk Tryz.prog ⟨.d0, .d1, .d0⟩ e8 := ent_code (by kernel_rfl) (by kernel_rfl) rfl
theorem ok9 : EntOk Tryz.prog ⟨.d0, .d1, .d1⟩ e9 := ent_code (by kernel_rfl) (by kernel_rfl) rfl
theorem ok10 : EntOk Tryz.prog ⟨.d0, .d1, .d2⟩ e10 := ent_code (by kernel_rfl) (by kernel_rfl) rfl
theorem ok11 : EntOk Tryz.prog ⟨.d0, .d1, .d3⟩ e11 := ent_code (by kernel_rfl) (by kernel_rfl) rfl
theorem ok12 : EntOk Tryz.prog ⟨.d0, .d1, .d4⟩ e12 := ent_code (by kernel_rfl) (by kernel_rfl) rfl
theorem ok13 : EntOk Tryz.prog ⟨.d0, .d1, .d5⟩ e13 := ent_code (by kernel_rfl) (by kernel_rfl) rfl
theorem ok14 : EntOk Tryz.prog ⟨.d0, .d1, .d6⟩ e14 := ent_code (by kernel_rfl) (by kernel_rfl) rfl
theorem ok16 : EntOk Tryz.prog ⟨.d0, .d2, .d0⟩ e16 := ent_code (by kernel_rfl) (by kernel_rfl) rfl
theorem ok17 : EntOk Tryz.prog ⟨.d0, .d2, .d1⟩ e17 := ent_code (by kernel_rfl) (by kernel_rfl) rfl
theorem ok18 : EntOk Tryz.prog ⟨.d0, .d2, .d2⟩ e18 := ent_code (by kernel_rfl) (by kernel_rfl) rfl
theorem ok19 : EntOk Tryz.prog ⟨.d0, .d2, .d3⟩ e19 := ent_code (by kernel_rfl) (by kernel_rfl) rfl
theorem ok20 : EntOk Tryz.prog ⟨.d0, .d2, .d4⟩ e20 := ent_code (by kernel_rfl) (by kernel_rfl) rfl
theorem ok21 : EntOk Tryz.prog ⟨.d0, .d2, .d5⟩ e21 := ent_code (by kernel_rfl) (by kernel_rfl) rfl
theorem ok22 : EntOk Tryz.prog ⟨.d0, .d2, .d6⟩ e22 := ent_code (by kernel_rfl) (by kernel_rfl) rfl
theorem ok23 : EntOk Tryz.prog ⟨.d0, .d2, .d7⟩ e23 := ent_code (by kernel_rfl) (by kernel_rfl) rfl
theorem ok24 : EntOk Tryz.prog ⟨.d0, .d3, .d0⟩ e24 := ent_code (by kernel_rfl) (by kernel_rfl) rfl
theorem ok25 : EntOk Tryz.prog ⟨.d0, .d3, .d1⟩ e25 := ent_code (by kernel_rfl) (by kernel_rfl) rfl
theorem ok26 : EntOk Tryz.prog ⟨.d0, .d3, .d2⟩ e26 := ent_code (by kernel_rfl) (by kernel_rfl) rfl
theorem ok30 : EntOk Tryz.prog ⟨.d0, .d3, .d6⟩ e30 := ent_code (by kernel_rfl) (by kernel_rfl) rfl
theorem ok31 : EntOk Tryz.prog ⟨.d0, .d3, .d7⟩ e31 := ent_code (by kernel_rfl) (by kernel_rfl) rfl
theorem ok32 : EntOk Tryz.prog ⟨.d0, .d4, .d0⟩ e32 := ent_code (by kernel_rfl) (by kernel_rfl) rfl
theorem ok33 : EntOk Tryz.prog ⟨.d0, .d4, .d1⟩ e33 := ent_code (by kernel_rfl) (by kernel_rfl) rfl
theorem ok34 : EntOk Tryz.prog ⟨.d0, .d4, .d2⟩ e34 := ent_code (by kernel_rfl) (by kernel_rfl) rfl
theorem ok35 : EntOk Tryz.prog ⟨.d0, .d4, .d3⟩ e35 := ent_code (by kernel_rfl) (by kernel_rfl) rfl
theorem ok36 : EntOk Tryz.prog ⟨.d0, .d4, .d4⟩ e36 := ent_code (by kernel_rfl) (by kernel_rfl) rfl
theorem ok37 : EntOk Tryz.prog ⟨.d0, .d4, .d5⟩ e37 := ent_code (by kernel_rfl) (by kernel_rfl) rfl
theorem ok38 : EntOk Tryz.prog ⟨.d0, .d4, .d6⟩ e38 := ent_code (by kernel_rfl) (by kernel_rfl) rfl
theorem ok39 : EntOk Tryz.prog ⟨.d0, .d4, .d7⟩ e39 := ent_code (by kernel_rfl) (by kernel_rfl) rfl
theorem ok41 : EntOk Tryz.prog ⟨.d0, .d5, .d1⟩ e41 := ent_code (by kernel_rfl) (by kernel_rfl) rfl
theorem ok45 : EntOk Tryz.prog ⟨.d0, .d5, .d5⟩ e45 := ent_code (by kernel_rfl) (by kernel_rfl) rfl
theorem ok47 : EntOk Tryz.prog ⟨.d0, .d5, .d7⟩ e47 := ent_code (by kernel_rfl) (by kernel_rfl) rfl
theorem ok48 : EntOk Tryz.prog ⟨.d0, .d6, .d0⟩ e48 := ent_code (by kernel_rfl) (by kernel_rfl) rfl
theorem ok49 : EntOk Tryz.prog ⟨.d0, .d6, .d1⟩ e49 := ent_code (by kernel_rfl) (by kernel_rfl) rfl
theorem ok50 : EntOk Tryz.prog ⟨.d0, .d6, .d2⟩ e50 := ent_code (by kernel_rfl) (by kernel_rfl) rfl
theorem ok51 : EntOk Tryz.prog ⟨.d0, .d6, .d3⟩ e51 := ent_code (by kernel_rfl) (by kernel_rfl) rfl
theorem ok54 : EntOk Tryz.prog ⟨.d0, .d6, .d6⟩ e54 := ent_code (by kernel_rfl) (by kernel_rfl) rfl
theorem ok58 : EntOk Tryz.prog ⟨.d0, .d7, .d2⟩ e58 := ent_code (by kernel_rfl) (by kernel_rfl) rfl
theorem ok59 : EntOk Tryz.prog ⟨.d0, .d7, .d3⟩ e59 := ent_code (by kernel_rfl) (by kernel_rfl) rfl
theorem ok60 : EntOk Tryz.prog ⟨.d0, .d7, .d4⟩ e60 := ent_code (by kernel_rfl) (by kernel_rfl) rfl
theorem ok61 : EntOk Tryz.prog ⟨.d0, .d7, .d5⟩ e61 := ent_code (by kernel_rfl) (by kernel_rfl) rfl
theorem ok62 : EntOk Tryz.prog ⟨.d0, .d7, .d6⟩ e62 := ent_code (by kernel_rfl) (by kernel_rfl) rfl
theorem ok63 : EntOk Tryz.prog ⟨.d0, .d7, .d7⟩ e63 := ent_code (by kernel_rfl) (by kernel_rfl) rfl
theorem ok64 : EntOk Tryz.prog ⟨.d1, .d0, .d0⟩ e64 := ent_code (by kernel_rfl) (by kernel_rfl) rfl
theorem ok65 : EntOk Tryz.prog ⟨.d1, .d0, .d1⟩ e65 := ent_code (by kernel_rfl) (by kernel_rfl) rfl
theorem ok66 : EntOk Tryz.prog ⟨.d1, .d0, .d2⟩ e66 := ent_code (by kernel_rfl) (by kernel_rfl) rfl
theorem ok67 : EntOk Tryz.prog ⟨.d1, .d0, .d3⟩ e67 := ent_code (by kernel_rfl) (by kernel_rfl) rfl
theorem ok68 : EntOk Tryz.prog ⟨.d1, .d0, .d4⟩ e68 := ent_code (by kernel_rfl) (by kernel_rfl) rfl
theorem ok69 : EntOk Tryz.prog ⟨.d1, .d0, .d5⟩ e69 := ent_code (by kernel_rfl) (by kernel_rfl) rfl
theorem ok70 : EntOk Tryz.prog ⟨.d1, .d0, .d6⟩ e70 := ent_code (by kernel_rfl) (by kernel_rfl) rfl
theorem ok71 : EntOk Tryz.prog ⟨.d1, .d0, .d7⟩ e71 := ent_code (by kernel_rfl) (by kernel_rfl) rfl
theorem ok72 : EntOk Tryz.prog ⟨.d1, .d1, .d0⟩ e72 := ent_code (by kernel_rfl) (by kernel_rfl) rfl
theorem ok73 : EntOk Tryz.prog ⟨.d1, .d1, .d1⟩ e73 := ent_code (by kernel_rfl) (by kernel_rfl) rfl
theorem ok74 : EntOk Tryz.prog ⟨.d1, .d1, .d2⟩ e74 := ent_code (by kernel_rfl) (by kernel_rfl) rfl
theorem ok75 : EntOk Tryz.prog ⟨.d1, .d1, .d3⟩ e75 := ent_code (by kernel_rfl) (by kernel_rfl) rfl
theorem ok76 : EntOk Tryz.prog ⟨.d1, .d1, .d4⟩ e76 := ent_code (by kernel_rfl) (by kernel_rfl) rfl
theorem ok77 : EntOk Tryz.prog ⟨.d1, .d1, .d5⟩ e77 := ent_code (by kernel_rfl) (by kernel_rfl) rfl
theorem ok78 : EntOk Tryz.prog ⟨.d1, .d1, .d6⟩ e78 := ent_code (by kernel_rfl) (by kernel_rfl) rfl
theorem ok79 : EntOk Tryz.prog ⟨.d1, .d1, .d7⟩ e79 := ent_code (by kernel_rfl) (by kernel_rfl) rfl
theorem ok80 : EntOk Tryz.prog ⟨.d1, .d2, .d0⟩ e80 := ent_code (by kernel_rfl) (by kernel_rfl) rfl
theorem ok83 : EntOk Tryz.prog ⟨.d1, .d2, .d3⟩ e83 := ent_code (by kernel_rfl) (by kernel_rfl) rfl
theorem ok91 : EntOk Tryz.prog ⟨.d1, .d3, .d3⟩ e91 := ent_code (by kernel_rfl) (by kernel_rfl) rfl
theorem ok95 : EntOk Tryz.prog ⟨.d1, .d3, .d7⟩ e95 := ent_code (by kernel_rfl) (by kernel_rfl) rfl
theorem ok101 : EntOk Tryz.prog ⟨.d1, .d4, .d5⟩ e101 := ent_code (by kernel_rfl) (by kernel_rfl) rfl
theorem ok102 : EntOk Tryz.prog ⟨.d1, .d4, .d6⟩ e102 := ent_code (by kernel_rfl) (by kernel_rfl) rfl
theorem ok108 : EntOk Tryz.prog ⟨.d1, .d5, .d4⟩ e108 := ent_code (by kernel_rfl) (by kernel_rfl) rfl
theorem ok109 : EntOk Tryz.prog ⟨.d1, .d5, .d5⟩ e109 := ent_code (by kernel_rfl) (by kernel_rfl) rfl
theorem ok110 : EntOk Tryz.prog ⟨.d1, .d5, .d6⟩ e110 := ent_code (by kernel_rfl) (by kernel_rfl) rfl
theorem ok57 : EntOk Tryz.prog ⟨.d0, .d7, .d1⟩ (.law (lawG gIB)) := law_IB (callsOk (by kernel_rfl)) fun s c w => Tryz.strings_IndexByte s c w
theorem ok104 (hk : ∃ (m : Int) (o : Obj), Keep.at' 0 = some o ∧ ∀ w : World, w.heap[0]? = some o → w.cell? ⟨0, 0, none⟩ = some (.int .i64 m)) : EntOk Tryz.prog ⟨.d1, .d5, .d0⟩ (.law (lawG gCt)) := law_Ct hk (callsOk (by kernel_rfl)) fun s sub m w h1 h2 => Tryz.strings_Contains s sub m w h1 h2
theorem ok103 : EntOk Tryz.prog ⟨.d1, .d4, .d7⟩ (.law (lawG (gMap upN))) := law_Map up_fin (callsOk (by kernel_rfl)) fun s w h1 h2 => Tryz.strings_ToUpper_ascii s w h1 h2
theorem ok105 : EntOk Tryz.prog ⟨.d1, .d5, .d1⟩ (.law (lawG (gMap loN))) := law_Map lo_fin (callsOk (by kernel_rfl)) fun s w h1 h2 => Tryz.strings_ToLower_ascii s w h1 h2
theorem bytes_below (w : World) (s : ByteArray) : Below w.heap.size w (Lib.bytesWorld w 5 s) := Lib.bytesWorld_below _ _ _
theorem ok106 : EntOk Tryz.prog ⟨.d1, .d5, .d2⟩ (.law (lawG gPI)) := law_PI (callsOk (by kernel_rfl)) 5 (fun s h1 v h2 w => Tryz.strconv_ParseInt_10_at64_ok s h1 v h2 w) bytes_below
theorem ok15 : EntOk Tryz.prog ⟨.d0, .d1, .d7⟩ (.law (lawG gJn)) := law_Jn (callsOk (by kernel_rfl)) fun bk o c xs sep w h1 h2 h3 h4 h5 => Tryz.strings_Join bk o c xs sep w h1 h2 h3 h4 h5
theorem ok114 : EntOk Tryz.prog ⟨.d1, .d6, .d2⟩ (.law (lawG gFI)) := law_FI (callsOk (by kernel_rfl)) fun i h w => Tryz.strconv_FormatInt_10_small i h w
/-- What is asked of the world. -/
def Kp : Prop := ∃ (m : Int) (o : Obj), Keep.at' 0 = some o ∧ ∀ w : World, w.heap[0]? = some o → w.cell? ⟨0, 0, none⟩ = some (.int .i64 m)
theorem okFT (hk : Kp) : ∀ k : I3, EntOk Tryz.prog k (get3 k FT) := by
  intro ⟨a, b, c⟩
  cases a
  · cases b
    · cases c
      · exact trivial
      · exact trivial
      · exact trivial
      · exact ok3
      · exact ok4
      · exact ok5
      · exact ok6
      · exact ok7
    · cases c
      · exact ok8
      · exact ok9
      · exact ok10
      · exact ok11
      · exact ok12
      · exact ok13
      · exact ok14
      · exact ok15
    · cases c
      · exact ok16
      · exact ok17
      · exact ok18
      · exact ok19
      · exact ok20
      · exact ok21
      · exact ok22
      · exact ok23
    · cases c
      · exact ok24
      · exact ok25
      · exact ok26
      · exact trivial
      · exact trivial
      · exact trivial
      · exact ok30
      · exact ok31
    · cases c
      · exact ok32
      · exact ok33
      · exact ok34
      · exact ok35
      · exact ok36
      · exact ok37
      · exact ok38
      · exact ok39
    · cases c
      · exact trivial
      · exact ok41
      · exact trivial
      · exact trivial
      · exact trivial
      · exact ok45
      · exact trivial
      · exact ok47
    · cases c
      · exact ok48
      · exact ok49
      · exact ok50
      · exact ok51
      · exact trivial
      · exact trivial
      · exact ok54
      · exact trivial
    · cases c
      · exact trivial
      · exact ok57
      · exact ok58
      · exact ok59
      · exact ok60
      · exact ok61
      · exact ok62
      · exact ok63
  · cases b
    · cases c
      · exact ok64
      · exact ok65
      · exact ok66
      · exact ok67
      · exact ok68
      · exact ok69
      · exact ok70
      · exact ok71
    · cases c
      · exact ok72
      · exact ok73
      · exact ok74
      · exact ok75
      · exact ok76
      · exact ok77
      · exact ok78
      · exact ok79
    · cases c
      · exact ok80
      · exact trivial
      · exact trivial
      · exact ok83
      · exact trivial
      · exact trivial
      · exact trivial
      · exact trivial
    · cases c
      · exact trivial
      · exact trivial
      · exact trivial
      · exact ok91
      · exact trivial
      · exact trivial
      · exact trivial
      · exact ok95
    · cases c
      · exact trivial
      · exact trivial
      · exact trivial
      · exact trivial
      · exact trivial
      · exact ok101
      · exact ok102
      · exact ok103
    · cases c
      · exact ok104 hk
      · exact ok105
      · exact ok106
      · exact trivial
      · exact ok108
      · exact ok109
      · exact ok110
      · exact trivial
    · cases c
      · exact trivial
      · exact trivial
      · exact ok114
      · exact trivial
      · exact trivial
      · exact trivial
      · exact trivial
      · exact trivial
    · cases c <;> exact trivial
  · cases b <;> cases c <;> exact trivial
  · cases b <;> cases c <;> exact trivial
  · cases b <;> cases c <;> exact trivial
  · cases b <;> cases c <;> exact trivial
  · cases b <;> cases c <;> exact trivial
  · cases b <;> cases c <;> exact trivial
end
end Go.Dk.Run
namespace Go.Dk.Run
open Go Go.Dk Go.RowKit Go.Proofs
noncomputable section
/-- Memory, empty; the first numbers are the program's variables. -/
def σ0 : H := ⟨⟨.d0, .d0, .d1, .d0, .d0⟩, rep5 none⟩
def φ0 : Emb := fun b => if b.num < 64 then some (b.num, 0) else none
theorem g0 : GOk φ0 := fun b hb => ⟨0, by unfold φ0; rw [if_pos hb]⟩
theorem blk0 (b : Id) : σ0.blk b = none := get_rep5 b none
theorem h0 [Keep] {w : World} (hk : ∀ k o, Keep.at' k = some o → w.heap[k]? = some o) : HR φ0 σ0 w :=
  { fresh := fun i hi => by
      have hi : 64 ≤ i.num := hi
      unfold φ0; rw [if_neg (by omega)]
    blk := fun b x hx => by rw [blk0] at hx; cases hx
    inj := fun b b' x x' c z z' hx => by rw [blk0] at hx; cases hx
    keep := fun k o h => ⟨hk k o h, fun b x z hx => by rw [blk0] at hx; cases hx⟩ }
def isT (o : Option (AV × H)) : Bool := match o with | some (.bool b, _) => b | _ => false
/-- A run that ends in 'true' is a call that does, and nothing that was there is turned. -/
theorem true_of_run [Keep] {P : Program} (hmix : P.follows .mixedOrders = true) {FT : F3 Ent} (hFT : ∀ k, EntOk P k (get3 k FT)) {n : Nat} {k : I3} {args : List AV} {args' : List Value} {w : World} (hk : ∀ k o, Keep.at' k = some o → w.heap[k]? = some o)
    (hv : VRs φ0 args args') (h : isT (callN FT n k args σ0) = true) : Calls P k.num args'.toArray w fun e w' => e = .returned (.bool true) ∧ Below w.heap.size w w' := by
  cases hc : callN FT n k args σ0 with
  | none => rw [hc] at h; cases h
  | some p =>
    obtain ⟨v, σ'⟩ := p
    rw [hc] at h
    have hb : v = .bool true := by
      cases v <;> first
        | (cases h; done)
        | (rename_i b; change b = true at h; rw [h])
    subst hb
    refine (callN_R hmix hFT hc g0 (h0 hk) hv).mono ?_
    rintro e w' ⟨φ', v', rfl, hr, _, hF⟩
    cases hr
    exact ⟨rfl, { os := hF.os, tape := hF.tape, output := hF.output, size := hF.size, block := fun k hk => hF.kept k hk fun b x c z hx => by rw [blk0] at hx; cases hx }⟩
theorem mixed : Tryz.prog.follows .mixedOrders = true := by kernel_rfl
theorem awake_run : isT (callN FT 100000 ⟨.d0, .d0, .d6⟩ [] σ0) = true := by kernel_rfl
theorem ok_awake [Keep] (hk : Kp) : EntOk Tryz.prog ⟨.d0, .d0, .d6⟩ (.law (lawG gAw)) := by
  refine ent_law (callsOk (by kernel_rfl)) fun φ σ w args args' v _ hH hv hg => ?_
  unfold gAw at hg
  split at hg
  · cases hg
    cases hv
    refine (true_of_run mixed (okFT hk) (fun k o h => (hH.keep k o h).1) .nil awake_run).mono ?_
    rintro e w' ⟨rfl, hb⟩
    exact ⟨⟨_, rfl, .bool true⟩, hb⟩
  · cases hg
/-- The functions, awake being known. -/
def FA : F3 Ent := FA0
theorem okFA [Keep] (hk : Kp) (k : I3) : EntOk Tryz.prog k (get3 k FA) := by
  have h := okFT hk k
  obtain ⟨a, b, c⟩ := k
  cases a <;> cases b <;> try exact h
  cases c <;> first
    | exact h
    | exact ok_awake hk
/-! Numbers of which just a part is looked at -/
theorem pend_and {n : Int} {m : Nat} (hm : 0 < m) (hm2 : m < 65536) : ∃ r : Nat, r < m ∧ runPend .i64 [(.and, 65535), (.rem, (m : Int))] n = some (.ofNat r) := by
  have h1 : ibin .and .i64 n 65535 = some (.int .i64 (IntKind.i64.wrap (BitVec.ofInt IntKind.i64.bits n &&& BitVec.ofInt IntKind.i64.bits 65535).toNat)) := rfl
  have h2 : (BitVec.ofInt IntKind.i64.bits n &&& BitVec.ofInt IntKind.i64.bits 65535).toNat ≤ 65535 := by
    rw [BitVec.toNat_and]
    exact Nat.le_trans Nat.and_le_right (by decide)
  generalize (BitVec.ofInt IntKind.i64.bits n &&& BitVec.ofInt IntKind.i64.bits 65535).toNat = x at h1 h2
  have h3 : IntKind.i64.wrap (x : Int) = (x : Int) := by
    unfold IntKind.wrap
    simp [IntKind.bits, IntKind.signed]
    omega
  refine ⟨x % m, Nat.mod_lt _ hm, ?_⟩
  unfold runPend
  rw [h1]
  simp only [h3]
  unfold runPend
  have h4 : ibin .rem .i64 (x : Int) (m : Int) = some (.int .i64 ((x : Int).tmod (m : Int))) := by
    show ite8 (ieq (m : Int) 0) none _ = _
    rw [ieq_eq]
    have : ((m : Int) == 0) = false := by simp; omega
    rw [this]
  rw [h4]
  simp only
  unfold runPend
  rw [show (x : Int).tmod (m : Int) = Int.ofNat (x % m) by rw [Int.tmod_eq_emod_of_nonneg (by omega)]; simp]
/-- A class of numbers: what is left of the low bits. -/
def pd (m r : Nat) : AV := .pend .i64 [(.and, 65535), (.rem, .ofNat m)] (.ofNat r)
def deepOk (k n : Nat) : Bool := isT (callN FA 100000 ⟨.d0, .d0, .d3⟩ [pd 40 n, pd 6 k] σ0)
end
end Go.Dk.Run
