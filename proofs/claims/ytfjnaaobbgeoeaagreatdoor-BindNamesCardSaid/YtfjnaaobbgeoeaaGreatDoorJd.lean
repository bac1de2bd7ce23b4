/-
  trie.Build as a law.
-/
import Derived.Shelf.SlIterI.Nil
import Derived.Shelf.SortM.Plain
import Derived.Shelf.SortM.SortNone
import Derived.Test.YtfjnaaobbgeoeaaGreatDoorProg
import Derived.Test.YtfjnaaobbgeoeaaGreatDoorJb
import Derived.Test.YtfjnaaobbgeoeaaGreatDoorJc
import Derived.Test.YtfjnaaobbgeoeaaGreatDoorChecked
set_option maxRecDepth 100000
set_option linter.all false
namespace Go.Proofs
open Go.RowKit Go.Maps Go.Sort Go.Shelf
def Tryz.keysA_ren : Go.Shelf.Ren := ⟨fun | 7 => 45 | 10 => 55 | n => n, fun | 23 => 123 | 26 => 3 | 3 => 125 | 28 => 132 | 0 => 0 | 27 => 131 | 33 => 103 | 4 => 4 | n => n, fun | n => n⟩
theorem Tryz.keysA : Go.Proofs.SlLaysZI.n7 Tryz.prog Tryz.keysA_ren := {
  mixed := by kernel_rfl,
  f7 := ⟨Tryz.f45.name, by decide, Tryz.func45.trans (congrArg some (by kernel_rfl))⟩,
  f10 := ⟨Tryz.f55.name, by decide, Tryz.func55.trans (congrArg some (by kernel_rfl))⟩,
  t0 := Tryz.underlying0,
  a0 := Tryz.isAgg0,
  z0 := Tryz.sizeOf0,
  v0 := Tryz.zeroValue0,
  t4 := Tryz.underlying4,
  a4 := Tryz.isAgg4,
  z4 := Tryz.sizeOf4,
  v4 := Tryz.zeroValue4,
  t23 := Tryz.underlying123,
  a23 := Tryz.isAgg123,
  z23 := Tryz.sizeOf123,
  v23 := Tryz.zeroValue123,
  t26 := Tryz.underlying3,
  a26 := Tryz.isAgg3,
  z26 := Tryz.sizeOf3,
  v26 := Tryz.zeroValue3,
  t27 := Tryz.underlying131,
  a27 := Tryz.isAgg131,
  z27 := Tryz.sizeOf131,
  v27 := Tryz.zeroValue131,
  t28 := Tryz.underlying132,
  a28 := Tryz.isAgg132,
  z28 := Tryz.sizeOf132,
  v28 := Tryz.zeroValue132,
  t33 := Tryz.underlying103,
  a33 := Tryz.isAgg103,
  z33 := Tryz.sizeOf103,
  v33 := Tryz.zeroValue103 }
def Tryz.sortedA_ren : Go.Shelf.Ren := ⟨fun | 6 => 44 | 8 => 53 | 9 => 54 | 11 => 75 | 13 => 77 | 12 => 76 | 23 => 97 | 24 => 98 | 14 => 88 | 15 => 89 | 16 => 90 | 17 => 91 | 18 => 92 | 19 => 93 | 20 => 94 | 21 => 95 | 22 => 96 | 25 => 105 | 26 => 106 | 27 => 107 | 28 => 108 | 29 => 109 | 30 => 110 | 31 => 116 | n => n, fun | 26 => 3 | 28 => 132 | 24 => 79 | 0 => 0 | 3 => 3 | 37 => 173 | 48 => 73 | 50 => 142 | 4 => 4 | 40 => 183 | 39 => 182 | 45 => 109 | 5 => 5 | 9 => 9 | 51 => 198 | 55 => 202 | 57 => 209 | 58 => 117 | 33 => 103 | n => n, fun | n => n⟩
theorem Tryz.sortedA : Go.Proofs.SlLaysZI.n6 Tryz.prog Tryz.sortedA_ren := {
  mixed := by kernel_rfl,
  f6 := ⟨Tryz.f44.name, by decide, Tryz.func44.trans (congrArg some (by kernel_rfl))⟩,
  f8 := ⟨Tryz.f53.name, by decide, Tryz.func53.trans (congrArg some (by kernel_rfl))⟩,
  f11 := ⟨Tryz.f75.name, by decide, Tryz.func75.trans (congrArg some (by kernel_rfl))⟩,
  t0 := Tryz.underlying0,
  a0 := Tryz.isAgg0,
  z0 := Tryz.sizeOf0,
  v0 := Tryz.zeroValue0,
  t24 := Tryz.underlying79,
  a24 := Tryz.isAgg79,
  z24 := Tryz.sizeOf79,
  v24 := Tryz.zeroValue79,
  t26 := Tryz.underlying3,
  a26 := Tryz.isAgg3,
  z26 := Tryz.sizeOf3,
  v26 := Tryz.zeroValue3,
  t28 := Tryz.underlying132,
  a28 := Tryz.isAgg132,
  z28 := Tryz.sizeOf132,
  v28 := Tryz.zeroValue132,
  i26 := by kernel_rfl }
def Tryz.sortA_ren : Go.Shelf.Ren := ⟨fun | 5 => 54 | 8 => 77 | 7 => 76 | 19 => 97 | 20 => 98 | 10 => 88 | 11 => 89 | 12 => 90 | 13 => 91 | 14 => 92 | 15 => 93 | 16 => 94 | 17 => 95 | 18 => 96 | 30 => 105 | 31 => 106 | 32 => 107 | 33 => 108 | 34 => 109 | 35 => 110 | 40 => 116 | n => n, fun | 23 => 79 | 25 => 3 | 3 => 3 | 32 => 173 | 22 => 79 | 0 => 0 | 44 => 73 | 46 => 142 | 4 => 4 | 36 => 183 | 35 => 182 | 41 => 109 | 5 => 5 | 9 => 9 | 53 => 198 | 57 => 202 | 63 => 209 | 64 => 117 | n => n, fun | n => n⟩
theorem Tryz.sortA : Go.Proofs.SlLaysM.n5 Tryz.prog Tryz.sortA_ren := {
  mixed := by kernel_rfl,
  f5 := ⟨Tryz.f54.name, by decide, Tryz.func54.trans (congrArg some (by kernel_rfl))⟩,
  f7 := ⟨Tryz.f76.name, by decide, Tryz.func76.trans (congrArg some (by kernel_rfl))⟩,
  f8 := Tryz.func77.trans (congrArg some (by kernel_rfl)),
  f10 := ⟨Tryz.f88.name, by decide, Tryz.func88.trans (congrArg some (by kernel_rfl))⟩,
  f11 := ⟨Tryz.f89.name, by decide, Tryz.func89.trans (congrArg some (by kernel_rfl))⟩,
  f12 := ⟨Tryz.f90.name, by decide, Tryz.func90.trans (congrArg some (by kernel_rfl))⟩,
  f13 := ⟨Tryz.f91.name, by decide, Tryz.func91.trans (congrArg some (by kernel_rfl))⟩,
  f14 := ⟨Tryz.f92.name, by decide, Tryz.func92.trans (congrArg some (by kernel_rfl))⟩,
  f15 := ⟨Tryz.f93.name, by decide, Tryz.func93.trans (congrArg some (by kernel_rfl))⟩,
  f16 := ⟨Tryz.f94.name, by decide, Tryz.func94.trans (congrArg some (by kernel_rfl))⟩,
  f17 := ⟨Tryz.f95.name, by decide, Tryz.func95.trans (congrArg some (by kernel_rfl))⟩,
  f18 := ⟨Tryz.f96.name, by decide, Tryz.func96.trans (congrArg some (by kernel_rfl))⟩,
  f19 := Tryz.func97.trans (congrArg some (by kernel_rfl)),
  f20 := Tryz.func98.trans (congrArg some (by kernel_rfl)),
  f30 := ⟨Tryz.f105.name, by decide, Tryz.func105.trans (congrArg some (by kernel_rfl))⟩,
  f31 := Tryz.func106.trans (congrArg some (by kernel_rfl)),
  f32 := Tryz.func107.trans (congrArg some (by kernel_rfl)),
  f33 := ⟨Tryz.f108.name, by decide, Tryz.func108.trans (congrArg some (by kernel_rfl))⟩,
  f34 := ⟨Tryz.f109.name, by decide, Tryz.func109.trans (congrArg some (by kernel_rfl))⟩,
  f35 := ⟨Tryz.f110.name, by decide, Tryz.func110.trans (congrArg some (by kernel_rfl))⟩,
  f40 := ⟨Tryz.f116.name, by decide, Tryz.func116.trans (congrArg some (by kernel_rfl))⟩,
  t0 := Tryz.underlying0,
  a0 := Tryz.isAgg0,
  z0 := Tryz.sizeOf0,
  v0 := Tryz.zeroValue0,
  t3 := Tryz.underlying3,
  a3 := Tryz.isAgg3,
  z3 := Tryz.sizeOf3,
  v3 := Tryz.zeroValue3,
  t4 := Tryz.underlying4,
  a4 := Tryz.isAgg4,
  z4 := Tryz.sizeOf4,
  v4 := Tryz.zeroValue4,
  t5 := Tryz.underlying5,
  a5 := Tryz.isAgg5,
  z5 := Tryz.sizeOf5,
  v5 := Tryz.zeroValue5,
  t9 := Tryz.underlying9,
  a9 := Tryz.isAgg9,
  z9 := Tryz.sizeOf9,
  v9 := Tryz.zeroValue9,
  t22 := Tryz.underlying79,
  a22 := Tryz.isAgg79,
  z22 := Tryz.sizeOf79,
  v22 := Tryz.zeroValue79,
  t23 := Tryz.underlying79,
  a23 := Tryz.isAgg79,
  z23 := Tryz.sizeOf79,
  v23 := Tryz.zeroValue79,
  t25 := Tryz.underlying3,
  a25 := Tryz.isAgg3,
  z25 := Tryz.sizeOf3,
  v25 := Tryz.zeroValue3,
  t32 := Tryz.underlying173,
  a32 := Tryz.isAgg173,
  z32 := Tryz.sizeOf173,
  v32 := Tryz.zeroValue173,
  t35 := Tryz.underlying182,
  a35 := Tryz.isAgg182,
  z35 := Tryz.sizeOf182,
  v35 := Tryz.zeroValue182,
  t36 := Tryz.underlying183,
  a36 := Tryz.isAgg183,
  z36 := Tryz.sizeOf183,
  v36 := Tryz.zeroValue183,
  t41 := Tryz.underlying109,
  a41 := Tryz.isAgg109,
  z41 := Tryz.sizeOf109,
  v41 := Tryz.zeroValue109,
  t44 := Tryz.underlying73,
  a44 := Tryz.isAgg73,
  z44 := Tryz.sizeOf73,
  v44 := Tryz.zeroValue73,
  t46 := Tryz.underlying142,
  a46 := Tryz.isAgg142,
  z46 := Tryz.sizeOf142,
  v46 := Tryz.zeroValue142,
  t53 := Tryz.underlying198,
  a53 := Tryz.isAgg198,
  z53 := Tryz.sizeOf198,
  v53 := Tryz.zeroValue198,
  t57 := Tryz.underlying202,
  a57 := Tryz.isAgg202,
  z57 := Tryz.sizeOf202,
  v57 := Tryz.zeroValue202,
  t63 := Tryz.underlying209,
  a63 := Tryz.isAgg209,
  z63 := Tryz.sizeOf209,
  v63 := Tryz.zeroValue209,
  t64 := Tryz.underlying117,
  a64 := Tryz.isAgg117,
  z64 := Tryz.sizeOf117,
  v64 := Tryz.zeroValue117 }
/-- slices.Sort's two contracts at this dump. -/
theorem Tryz.sortsA (m : Nat) : AnyZI.SortsIn Tryz.prog Tryz.sortedA_ren Fence.wide m :=
  ⟨fun blk off cap ss W hH hblk hsz => callsIn_wide.2 (AnyM.slices_Sort_int Tryz.sortA blk off cap ss W hH hblk hsz),
   fun p cap W => callsIn_wide.2 (AnyM.slices_Sort_int_none Tryz.sortA p cap W)⟩
end Go.Proofs
namespace Go.Dk.Run
open Go Go.Dk
noncomputable section
/-- umlaut/table.build -/
def e19 : Ent := .code [⟨.d0, .d0, .d0⟩]
 (.seq (.ops [⟨(some ⟨.d0, .d0, .d2⟩), none, .mv (.c .nilp)⟩])
 (.seq (.ops [⟨(some ⟨.d0, .d1, .d3⟩), none, .mkM (.prim .i)⟩,
  ⟨(some ⟨.d0, .d0, .d3⟩), none, .mv (.t ⟨.d0, .d1, .d3⟩)⟩])
 (.seq (.seq (.ops [⟨(some ⟨.d0, .d1, .d4⟩), none, .mv (.t ⟨.d0, .d0, .d0⟩)⟩,
  ⟨(some ⟨.d0, .d1, .d5⟩), none, .ghost 0 (.t ⟨.d0, .d1, .d4⟩)⟩])
 (.block 0 (.loop (.seq (.ops [⟨(some ⟨.d0, .d1, .d6⟩), none, .ghost 1 (.t ⟨.d0, .d1, .d5⟩)⟩,
  ⟨(some ⟨.d0, .d1, .d7⟩), none, .ext (.t ⟨.d0, .d1, .d6⟩) 0⟩])
 (.seq (.cond (.t ⟨.d0, .d1, .d7⟩) .skip (.exit 0))
 (.block 1 (.seq (.ops [⟨(some ⟨.d0, .d2, .d0⟩), none, .ghost 2 (.t ⟨.d0, .d1, .d5⟩)⟩,
  ⟨(some ⟨.d0, .d2, .d1⟩), none, .ext (.t ⟨.d0, .d2, .d0⟩) 0⟩,
  ⟨(some ⟨.d0, .d0, .d4⟩), none, .box none (.c (.agg [(.int .i64 (.ofNat 0)), (.int .i64 (.ofNat 0)), (.int .i64 (.ofNat 0))]))⟩,
  ⟨none, none, .store 3 (.t ⟨.d0, .d0, .d4⟩) (.t ⟨.d0, .d2, .d1⟩)⟩])
 (.seq (.ops [⟨(some ⟨.d0, .d2, .d2⟩), none, .load (some 3) (.t ⟨.d0, .d0, .d4⟩)⟩,
  ⟨(some ⟨.d0, .d2, .d3⟩), none, .callF ⟨.d0, .d3, .d4⟩ [(.t ⟨.d0, .d2, .d2⟩)]⟩,
  ⟨(some ⟨.d0, .d0, .d5⟩), none, .mv (.t ⟨.d0, .d2, .d3⟩)⟩])
 (.reg 0 [] [⟨(some ⟨.d0, .d2, .d4⟩), none, .mv (.t ⟨.d0, .d0, .d3⟩)⟩,
  ⟨(some ⟨.d0, .d2, .d5⟩), none, .mv (.t ⟨.d0, .d0, .d5⟩)⟩,
  ⟨(some ⟨.d0, .d2, .d6⟩), none, .idxA none 1 (.t ⟨.d0, .d2, .d5⟩) (.c (.int .i64 (.ofNat 0)))⟩,
  ⟨(some ⟨.d0, .d2, .d7⟩), none, .load none (.t ⟨.d0, .d2, .d6⟩)⟩,
  ⟨(some ⟨.d0, .d3, .d0⟩), none, .mv (.t ⟨.d0, .d0, .d3⟩)⟩,
  ⟨(some ⟨.d0, .d3, .d1⟩), none, .mv (.t ⟨.d0, .d0, .d5⟩)⟩,
  ⟨(some ⟨.d0, .d3, .d2⟩), none, .idxA none 1 (.t ⟨.d0, .d3, .d1⟩) (.c (.int .i64 (.ofNat 0)))⟩,
  ⟨(some ⟨.d0, .d3, .d3⟩), none, .load none (.t ⟨.d0, .d3, .d2⟩)⟩,
  ⟨(some ⟨.d0, .d3, .d4⟩), none, .look (.prim .i) (.int .i64 (.ofNat 0)) false (.t ⟨.d0, .d3, .d0⟩) (.t ⟨.d0, .d3, .d3⟩)⟩,
  ⟨(some ⟨.d0, .d3, .d5⟩), none, .mv (.t ⟨.d0, .d0, .d5⟩)⟩,
  ⟨(some ⟨.d0, .d3, .d6⟩), none, .len .sli (.t ⟨.d0, .d3, .d5⟩)⟩,
  ⟨(some ⟨.d0, .d3, .d7⟩), none, .max2 (.t ⟨.d0, .d3, .d4⟩) (.t ⟨.d0, .d3, .d6⟩)⟩,
  ⟨none, none, .upd (.prim .i) (.t ⟨.d0, .d2, .d4⟩) (.t ⟨.d0, .d2, .d7⟩) (.t ⟨.d0, .d3, .d7⟩)⟩])))))))))
 (.seq (.ops [⟨(some ⟨.d0, .d0, .d6⟩), none, .mv (.c .nils)⟩])
 (.seq (.seq (.ops [⟨(some ⟨.d0, .d4, .d0⟩), none, .mv (.t ⟨.d0, .d0, .d3⟩)⟩,
  ⟨(some ⟨.d0, .d4, .d1⟩), none, .ghost 0 (.t ⟨.d0, .d4, .d0⟩)⟩])
 (.block 2 (.loop (.seq (.ops [⟨(some ⟨.d0, .d4, .d2⟩), none, .ghost 1 (.t ⟨.d0, .d4, .d1⟩)⟩,
  ⟨(some ⟨.d0, .d4, .d3⟩), none, .ext (.t ⟨.d0, .d4, .d2⟩) 0⟩])
 (.seq (.cond (.t ⟨.d0, .d4, .d3⟩) .skip (.exit 2))
 (.block 3 (.seq (.ops [⟨(some ⟨.d0, .d4, .d4⟩), none, .ghost 2 (.t ⟨.d0, .d4, .d1⟩)⟩,
  ⟨(some ⟨.d0, .d4, .d5⟩), none, .ext (.t ⟨.d0, .d4, .d4⟩) 0⟩,
  ⟨(some ⟨.d0, .d4, .d6⟩), none, .ext (.t ⟨.d0, .d4, .d4⟩) 1⟩,
  ⟨(some ⟨.d0, .d0, .d7⟩), none, .mv (.t ⟨.d0, .d4, .d5⟩)⟩,
  ⟨(some ⟨.d0, .d1, .d0⟩), none, .mv (.t ⟨.d0, .d4, .d6⟩)⟩])
 (.ops [⟨(some ⟨.d0, .d4, .d7⟩), none, .mv (.t ⟨.d0, .d0, .d6⟩)⟩,
  ⟨(some ⟨.d0, .d5, .d0⟩), none, .mv (.t ⟨.d0, .d0, .d7⟩)⟩,
  ⟨(some ⟨.d0, .d5, .d1⟩), none, .mv (.t ⟨.d0, .d1, .d0⟩)⟩,
  ⟨(some ⟨.d0, .d5, .d2⟩), none, .build [(.int .i64 (.ofNat 0)), (.int .i64 (.ofNat 0))] [(0, 1, (.t ⟨.d0, .d5, .d0⟩)), (1, 1, (.t ⟨.d0, .d5, .d1⟩))]⟩,
  ⟨(some ⟨.d0, .d5, .d3⟩), none, .buildS none 2 1 [(.int .i64 (.ofNat 0)), (.int .i64 (.ofNat 0))] [(0, 2, (.t ⟨.d0, .d5, .d2⟩))]⟩,
  ⟨(some ⟨.d0, .d5, .d4⟩), none, .app 2 16 (.t ⟨.d0, .d4, .d7⟩) (.t ⟨.d0, .d5, .d3⟩)⟩,
  ⟨(some ⟨.d0, .d0, .d6⟩), none, .mv (.t ⟨.d0, .d5, .d4⟩)⟩]))))))))
 (.seq (.ops [⟨(some ⟨.d0, .d5, .d6⟩), none, .mv (.t ⟨.d0, .d0, .d6⟩)⟩,
  ⟨(some ⟨.d0, .d5, .d7⟩), none, .callF ⟨.d0, .d3, .d5⟩ [(.t ⟨.d0, .d5, .d6⟩)]⟩,
  ⟨(some ⟨.d0, .d5, .d5⟩), none, .mv (.t ⟨.d0, .d5, .d7⟩)⟩,
  ⟨(some ⟨.d0, .d6, .d0⟩), none, .ext (.t ⟨.d0, .d5, .d5⟩) 0⟩,
  ⟨(some ⟨.d0, .d6, .d1⟩), none, .ext (.t ⟨.d0, .d5, .d5⟩) 1⟩,
  ⟨(some ⟨.d0, .d1, .d1⟩), none, .mv (.t ⟨.d0, .d6, .d0⟩)⟩,
  ⟨(some ⟨.d0, .d1, .d2⟩), none, .mv (.t ⟨.d0, .d6, .d1⟩)⟩])
 (.seq (.ops [⟨(some ⟨.d0, .d6, .d2⟩), none, .mv (.t ⟨.d0, .d0, .d0⟩)⟩,
  ⟨(some ⟨.d0, .d6, .d3⟩), none, .mv (.t ⟨.d0, .d1, .d1⟩)⟩,
  ⟨(some ⟨.d0, .d6, .d4⟩), none, .build [.nilm, .nilp] [(0, 1, (.t ⟨.d0, .d6, .d2⟩)), (1, 1, (.t ⟨.d0, .d6, .d3⟩))]⟩,
  ⟨(some ⟨.d0, .d6, .d5⟩), none, .box none (.t ⟨.d0, .d6, .d4⟩)⟩,
  ⟨(some ⟨.d0, .d0, .d2⟩), none, .mv (.t ⟨.d0, .d6, .d5⟩)⟩])
 .ret)))))))
 [.tmp ⟨.d0, .d0, .d2⟩]
/-- (umlaut/table.seq).signs -/
def e28 : Ent := .code [⟨.d0, .d0, .d0⟩]
 (.seq (.ops [⟨(some ⟨.d0, .d0, .d1⟩), none, .box none (.t ⟨.d0, .d0, .d0⟩)⟩,
  ⟨(some ⟨.d0, .d0, .d2⟩), none, .mv (.c .nils)⟩])
 (.seq (.ops [⟨(some ⟨.d0, .d0, .d3⟩), none, .mv (.c .nils)⟩])
 (.seq (.seq (.ops [⟨(some ⟨.d0, .d0, .d6⟩), none, .load (some 3) (.t ⟨.d0, .d0, .d1⟩)⟩,
  ⟨(some ⟨.d0, .d0, .d7⟩), none, .mv (.c (.int .i64 (.ofNat 0)))⟩])
 (.block 0 (.loop (.seq (.ops [⟨(some ⟨.d0, .d1, .d0⟩), none, .bin .lss (.t ⟨.d0, .d0, .d7⟩) (.c (.int .i64 (.ofNat 3)))⟩])
 (.seq (.cond (.t ⟨.d0, .d1, .d0⟩) .skip (.exit 0))
 (.seq (.block 1 (.seq (.ops [⟨(some ⟨.d0, .d1, .d1⟩), none, .idxV 3 1 none (.t ⟨.d0, .d0, .d6⟩) (.t ⟨.d0, .d0, .d7⟩)⟩,
  ⟨(some ⟨.d0, .d0, .d5⟩), none, .mv (.t ⟨.d0, .d1, .d1⟩)⟩])
 (.seq (.ops [⟨(some ⟨.d0, .d1, .d2⟩), none, .mv (.t ⟨.d0, .d0, .d5⟩)⟩,
  ⟨(some ⟨.d0, .d1, .d3⟩), none, .bin .gtr (.t ⟨.d0, .d1, .d2⟩) (.c (.int .i64 (.ofNat 0)))⟩])
 (.cond (.t ⟨.d0, .d1, .d3⟩) (.ops [⟨(some ⟨.d0, .d1, .d4⟩), none, .mv (.t ⟨.d0, .d0, .d3⟩)⟩,
  ⟨(some ⟨.d0, .d1, .d5⟩), none, .mv (.t ⟨.d0, .d0, .d5⟩)⟩,
  ⟨(some ⟨.d0, .d1, .d6⟩), none, .bin .sub (.t ⟨.d0, .d1, .d5⟩) (.c (.int .i64 (.ofNat 1)))⟩,
  ⟨(some ⟨.d0, .d1, .d7⟩), none, .buildS none 1 1 [(.int .i64 (.ofNat 0))] [(0, 1, (.t ⟨.d0, .d1, .d6⟩))]⟩,
  ⟨(some ⟨.d0, .d2, .d0⟩), none, .app 1 8 (.t ⟨.d0, .d1, .d4⟩) (.t ⟨.d0, .d1, .d7⟩)⟩,
  ⟨(some ⟨.d0, .d0, .d3⟩), none, .mv (.t ⟨.d0, .d2, .d0⟩)⟩]) .skip))))
 (.ops [⟨(some ⟨.d0, .d2, .d1⟩), none, .bin .add (.t ⟨.d0, .d0, .d7⟩) (.c (.int .i64 (.ofNat 1)))⟩,
  ⟨(some ⟨.d0, .d0, .d7⟩), none, .mv (.t ⟨.d0, .d2, .d1⟩)⟩])))))))
 (.seq (.ops [⟨(some ⟨.d0, .d2, .d2⟩), none, .mv (.t ⟨.d0, .d0, .d3⟩)⟩,
  ⟨(some ⟨.d0, .d0, .d2⟩), none, .mv (.t ⟨.d0, .d2, .d2⟩)⟩])
 .ret))))
 [.tmp ⟨.d0, .d0, .d2⟩]
/-- umlaut/trie.Build -/
def e29 : Ent := .code [⟨.d0, .d0, .d0⟩]
 (.seq (.ops [⟨(some ⟨.d0, .d0, .d2⟩), none, .mv (.c .nilp)⟩,
  ⟨(some ⟨.d0, .d0, .d3⟩), none, .mv (.c (.int .i64 (.ofNat 0)))⟩])
 (.seq (.seq (.ops [⟨(some ⟨.d0, .d1, .d7⟩), none, .mv (.t ⟨.d0, .d0, .d0⟩)⟩,
  ⟨(some ⟨.d0, .d2, .d0⟩), none, .callF ⟨.d0, .d5, .d1⟩ [(.t ⟨.d0, .d1, .d7⟩), (.c (.func 42 [] []))]⟩])
 (.cond (.t ⟨.d0, .d2, .d0⟩) (.seq (.ops [⟨(some ⟨.d0, .d0, .d2⟩), none, .mv (.c .nilp)⟩,
  ⟨(some ⟨.d0, .d0, .d3⟩), none, .mv (.c (.int .i64 (.ofNat 1)))⟩])
 .ret) .skip))
 (.seq (.ops [⟨(some ⟨.d0, .d2, .d1⟩), none, .mkM (.prim .i)⟩,
  ⟨(some ⟨.d0, .d0, .d4⟩), none, .mv (.t ⟨.d0, .d2, .d1⟩)⟩])
 (.seq (.ops [⟨(some ⟨.d0, .d2, .d2⟩), none, .mkM (.prim .i)⟩,
  ⟨(some ⟨.d0, .d0, .d5⟩), none, .mv (.t ⟨.d0, .d2, .d2⟩)⟩])
 (.seq (.seq (.ops [⟨(some ⟨.d0, .d2, .d3⟩), none, .mv (.t ⟨.d0, .d0, .d0⟩)⟩,
  ⟨(some ⟨.d0, .d2, .d4⟩), none, .len .sli (.t ⟨.d0, .d2, .d3⟩)⟩,
  ⟨(some ⟨.d0, .d2, .d5⟩), none, .mv (.c (.int .i64 (.ofNat 0)))⟩])
 (.block 0 (.loop (.seq (.ops [⟨(some ⟨.d0, .d2, .d6⟩), none, .bin .lss (.t ⟨.d0, .d2, .d5⟩) (.t ⟨.d0, .d2, .d4⟩)⟩])
 (.seq (.cond (.t ⟨.d0, .d2, .d6⟩) .skip (.exit 0))
 (.seq (.block 1 (.seq (.ops [⟨(some ⟨.d0, .d2, .d7⟩), none, .idxA none 2 (.t ⟨.d0, .d2, .d3⟩) (.t ⟨.d0, .d2, .d5⟩)⟩,
  ⟨(some ⟨.d0, .d3, .d0⟩), none, .load (some 2) (.t ⟨.d0, .d2, .d7⟩)⟩,
  ⟨(some ⟨.d0, .d0, .d7⟩), none, .box none (.c (.agg [(.int .i64 (.ofNat 0)), (.int .i64 (.ofNat 0))]))⟩,
  ⟨none, none, .store 2 (.t ⟨.d0, .d0, .d7⟩) (.t ⟨.d0, .d3, .d0⟩)⟩])
 (.seq (.seq (.ops [⟨(some ⟨.d0, .d3, .d1⟩), none, .mv (.t ⟨.d0, .d0, .d4⟩)⟩,
  ⟨(some ⟨.d0, .d3, .d2⟩), none, .fieldA 0 (.t ⟨.d0, .d0, .d7⟩)⟩,
  ⟨(some ⟨.d0, .d3, .d3⟩), none, .load none (.t ⟨.d0, .d3, .d2⟩)⟩,
  ⟨(some ⟨.d0, .d3, .d4⟩), none, .look (.prim .i) (.bool false) false (.t ⟨.d0, .d3, .d1⟩) (.t ⟨.d0, .d3, .d3⟩)⟩])
 (.cond (.t ⟨.d0, .d3, .d4⟩) (.seq (.ops [⟨(some ⟨.d0, .d0, .d2⟩), none, .mv (.c .nilp)⟩,
  ⟨(some ⟨.d0, .d0, .d3⟩), none, .mv (.c (.int .i64 (.ofNat 64)))⟩])
 .ret) .skip))
 (.seq (.ops [⟨(some ⟨.d0, .d3, .d5⟩), none, .mv (.t ⟨.d0, .d0, .d4⟩)⟩,
  ⟨(some ⟨.d0, .d3, .d6⟩), none, .fieldA 0 (.t ⟨.d0, .d0, .d7⟩)⟩,
  ⟨(some ⟨.d0, .d3, .d7⟩), none, .load none (.t ⟨.d0, .d3, .d6⟩)⟩,
  ⟨none, none, .upd (.prim .i) (.t ⟨.d0, .d3, .d5⟩) (.t ⟨.d0, .d3, .d7⟩) (.c (.bool true))⟩])
 (.seq (.ops [⟨(some ⟨.d0, .d4, .d0⟩), none, .mv (.t ⟨.d0, .d0, .d5⟩)⟩,
  ⟨(some ⟨.d0, .d4, .d1⟩), none, .fieldA 0 (.t ⟨.d0, .d0, .d7⟩)⟩,
  ⟨(some ⟨.d0, .d4, .d2⟩), none, .load none (.t ⟨.d0, .d4, .d1⟩)⟩,
  ⟨(some ⟨.d0, .d4, .d3⟩), none, .bin .quo (.t ⟨.d0, .d4, .d2⟩) (.c (.int .i64 (.ofNat 64)))⟩,
  ⟨(some ⟨.d0, .d4, .d4⟩), none, .look (.prim .i) (.agg [(.int .i32 (.ofNat 0)), (.int .i32 (.ofNat 0)), (.int .i32 (.ofNat 0)), (.int .i32 (.ofNat 0)), (.int .i32 (.ofNat 0)), (.int .i32 (.ofNat 0)), (.int .i32 (.ofNat 0)), (.int .i32 (.ofNat 0)), (.int .i32 (.ofNat 0)), (.int .i32 (.ofNat 0)), (.int .i32 (.ofNat 0)), (.int .i32 (.ofNat 0)), (.int .i32 (.ofNat 0)), (.int .i32 (.ofNat 0)), (.int .i32 (.ofNat 0)), (.int .i32 (.ofNat 0)), (.int .i32 (.ofNat 0)), (.int .i32 (.ofNat 0)), (.int .i32 (.ofNat 0)), (.int .i32 (.ofNat 0)), (.int .i32 (.ofNat 0)), (.int .i32 (.ofNat 0)), (.int .i32 (.ofNat 0)), (.int .i32 (.ofNat 0)), (.int .i32 (.ofNat 0)), (.int .i32 (.ofNat 0)), (.int .i32 (.ofNat 0)), (.int .i32 (.ofNat 0)), (.int .i32 (.ofNat 0)), (.int .i32 (.ofNat 0)), (.int .i32 (.ofNat 0)), (.int .i32 (.ofNat 0)), (.int .i32 (.ofNat 0)), (.int .i32 (.ofNat 0)), (.int .i32 (.ofNat 0)), (.int .i32 (.ofNat 0)), (.int .i32 (.ofNat 0)), (.int .i32 (.ofNat 0)), (.int .i32 (.ofNat 0)), (.int .i32 (.ofNat 0)), (.int .i32 (.ofNat 0)), (.int .i32 (.ofNat 0)), (.int .i32 (.ofNat 0)), (.int .i32 (.ofNat 0)), (.int .i32 (.ofNat 0)), (.int .i32 (.ofNat 0)), (.int .i32 (.ofNat 0)), (.int .i32 (.ofNat 0)), (.int .i32 (.ofNat 0)), (.int .i32 (.ofNat 0)), (.int .i32 (.ofNat 0)), (.int .i32 (.ofNat 0)), (.int .i32 (.ofNat 0)), (.int .i32 (.ofNat 0)), (.int .i32 (.ofNat 0)), (.int .i32 (.ofNat 0)), (.int .i32 (.ofNat 0)), (.int .i32 (.ofNat 0)), (.int .i32 (.ofNat 0)), (.int .i32 (.ofNat 0)), (.int .i32 (.ofNat 0)), (.int .i32 (.ofNat 0)), (.int .i32 (.ofNat 0)), (.int .i32 (.ofNat 0))]) false (.t ⟨.d0, .d4, .d0⟩) (.t ⟨.d0, .d4, .d3⟩)⟩,
  ⟨(some ⟨.d0, .d1, .d0⟩), none, .box none (.c (.agg [(.int .i32 (.ofNat 0)), (.int .i32 (.ofNat 0)), (.int .i32 (.ofNat 0)), (.int .i32 (.ofNat 0)), (.int .i32 (.ofNat 0)), (.int .i32 (.ofNat 0)), (.int .i32 (.ofNat 0)), (.int .i32 (.ofNat 0)), (.int .i32 (.ofNat 0)), (.int .i32 (.ofNat 0)), (.int .i32 (.ofNat 0)), (.int .i32 (.ofNat 0)), (.int .i32 (.ofNat 0)), (.int .i32 (.ofNat 0)), (.int .i32 (.ofNat 0)), (.int .i32 (.ofNat 0)), (.int .i32 (.ofNat 0)), (.int .i32 (.ofNat 0)), (.int .i32 (.ofNat 0)), (.int .i32 (.ofNat 0)), (.int .i32 (.ofNat 0)), (.int .i32 (.ofNat 0)), (.int .i32 (.ofNat 0)), (.int .i32 (.ofNat 0)), (.int .i32 (.ofNat 0)), (.int .i32 (.ofNat 0)), (.int .i32 (.ofNat 0)), (.int .i32 (.ofNat 0)), (.int .i32 (.ofNat 0)), (.int .i32 (.ofNat 0)), (.int .i32 (.ofNat 0)), (.int .i32 (.ofNat 0)), (.int .i32 (.ofNat 0)), (.int .i32 (.ofNat 0)), (.int .i32 (.ofNat 0)), (.int .i32 (.ofNat 0)), (.int .i32 (.ofNat 0)), (.int .i32 (.ofNat 0)), (.int .i32 (.ofNat 0)), (.int .i32 (.ofNat 0)), (.int .i32 (.ofNat 0)), (.int .i32 (.ofNat 0)), (.int .i32 (.ofNat 0)), (.int .i32 (.ofNat 0)), (.int .i32 (.ofNat 0)), (.int .i32 (.ofNat 0)), (.int .i32 (.ofNat 0)), (.int .i32 (.ofNat 0)), (.int .i32 (.ofNat 0)), (.int .i32 (.ofNat 0)), (.int .i32 (.ofNat 0)), (.int .i32 (.ofNat 0)), (.int .i32 (.ofNat 0)), (.int .i32 (.ofNat 0)), (.int .i32 (.ofNat 0)), (.int .i32 (.ofNat 0)), (.int .i32 (.ofNat 0)), (.int .i32 (.ofNat 0)), (.int .i32 (.ofNat 0)), (.int .i32 (.ofNat 0)), (.int .i32 (.ofNat 0)), (.int .i32 (.ofNat 0)), (.int .i32 (.ofNat 0)), (.int .i32 (.ofNat 0))]))⟩,
  ⟨none, none, .store 64 (.t ⟨.d0, .d1, .d0⟩) (.t ⟨.d0, .d4, .d4⟩)⟩])
 (.seq (.ops [⟨(some ⟨.d0, .d4, .d5⟩), none, .fieldA 0 (.t ⟨.d0, .d0, .d7⟩)⟩,
  ⟨(some ⟨.d0, .d4, .d6⟩), none, .load none (.t ⟨.d0, .d4, .d5⟩)⟩,
  ⟨(some ⟨.d0, .d4, .d7⟩), none, .bin .rem (.t ⟨.d0, .d4, .d6⟩) (.c (.int .i64 (.ofNat 64)))⟩,
  ⟨(some ⟨.d0, .d5, .d0⟩), none, .fieldA 1 (.t ⟨.d0, .d0, .d7⟩)⟩,
  ⟨(some ⟨.d0, .d5, .d1⟩), none, .load none (.t ⟨.d0, .d5, .d0⟩)⟩,
  ⟨(some ⟨.d0, .d5, .d2⟩), none, .convI .i32 (.t ⟨.d0, .d5, .d1⟩)⟩,
  ⟨(some ⟨.d0, .d5, .d3⟩), none, .idxA (some 64) 1 (.t ⟨.d0, .d1, .d0⟩) (.t ⟨.d0, .d4, .d7⟩)⟩,
  ⟨none, none, .store 1 (.t ⟨.d0, .d5, .d3⟩) (.t ⟨.d0, .d5, .d2⟩)⟩])
 (.ops [⟨(some ⟨.d0, .d5, .d4⟩), none, .mv (.t ⟨.d0, .d0, .d5⟩)⟩,
  ⟨(some ⟨.d0, .d5, .d5⟩), none, .fieldA 0 (.t ⟨.d0, .d0, .d7⟩)⟩,
  ⟨(some ⟨.d0, .d5, .d6⟩), none, .load none (.t ⟨.d0, .d5, .d5⟩)⟩,
  ⟨(some ⟨.d0, .d5, .d7⟩), none, .bin .quo (.t ⟨.d0, .d5, .d6⟩) (.c (.int .i64 (.ofNat 64)))⟩,
  ⟨(some ⟨.d0, .d6, .d0⟩), none, .load (some 64) (.t ⟨.d0, .d1, .d0⟩)⟩,
  ⟨none, none, .upd (.prim .i) (.t ⟨.d0, .d5, .d4⟩) (.t ⟨.d0, .d5, .d7⟩) (.t ⟨.d0, .d6, .d0⟩)⟩])))))))
 (.ops [⟨(some ⟨.d0, .d6, .d1⟩), none, .bin .add (.t ⟨.d0, .d2, .d5⟩) (.c (.int .i64 (.ofNat 1)))⟩,
  ⟨(some ⟨.d0, .d2, .d5⟩), none, .mv (.t ⟨.d0, .d6, .d1⟩)⟩])))))))
 (.seq (.ops [⟨(some ⟨.d0, .d6, .d2⟩), none, .mkM (.prim .i)⟩,
  ⟨(some ⟨.d0, .d6, .d3⟩), none, .build [.nils, .nilm] [(1, 1, (.t ⟨.d0, .d6, .d2⟩))]⟩,
  ⟨(some ⟨.d0, .d6, .d4⟩), none, .box none (.t ⟨.d0, .d6, .d3⟩)⟩,
  ⟨(some ⟨.d0, .d1, .d1⟩), none, .mv (.t ⟨.d0, .d6, .d4⟩)⟩])
 (.seq (.ops [⟨(some ⟨.d0, .d6, .d5⟩), none, .mkM (.flat [.i, .i, .i, .i, .i, .i, .i, .i, .i, .i, .i, .i, .i, .i, .i, .i, .i, .i, .i, .i, .i, .i, .i, .i, .i, .i, .i, .i, .i, .i, .i, .i, .i, .i, .i, .i, .i, .i, .i, .i, .i, .i, .i, .i, .i, .i, .i, .i, .i, .i, .i, .i, .i, .i, .i, .i, .i, .i, .i, .i, .i, .i, .i, .i])⟩,
  ⟨(some ⟨.d0, .d1, .d2⟩), none, .mv (.t ⟨.d0, .d6, .d5⟩)⟩])
 (.seq (.seq (.ops [⟨(some ⟨.d0, .d6, .d6⟩), none, .mv (.t ⟨.d0, .d0, .d5⟩)⟩,
  ⟨(some ⟨.d0, .d6, .d7⟩), none, .len .map (.t ⟨.d0, .d6, .d6⟩)⟩,
  ⟨(some ⟨.d0, .d7, .d0⟩), none, .bin .lss (.t ⟨.d0, .d6, .d7⟩) (.c (.int .i64 (.ofNat 17412)))⟩])
 (.cond (.t ⟨.d0, .d7, .d0⟩) (.seq (.ops [⟨(some ⟨.d0, .d7, .d1⟩), none, .mv (.t ⟨.d0, .d1, .d1⟩)⟩,
  ⟨(some ⟨.d0, .d7, .d2⟩), none, .mv (.t ⟨.d0, .d1, .d1⟩)⟩,
  ⟨(some ⟨.d0, .d7, .d3⟩), none, .nilck (.t ⟨.d0, .d7, .d2⟩)⟩,
  ⟨(some ⟨.d0, .d7, .d4⟩), none, .fieldA 0 (.t ⟨.d0, .d7, .d3⟩)⟩,
  ⟨(some ⟨.d0, .d7, .d5⟩), none, .load none (.t ⟨.d0, .d7, .d4⟩)⟩,
  ⟨(some ⟨.d0, .d7, .d6⟩), none, .build [(.int .i32 (.ofNat 0)), (.int .i32 (.ofNat 0)), (.int .i32 (.ofNat 0)), (.int .i32 (.ofNat 0)), (.int .i32 (.ofNat 0)), (.int .i32 (.ofNat 0)), (.int .i32 (.ofNat 0)), (.int .i32 (.ofNat 0)), (.int .i32 (.ofNat 0)), (.int .i32 (.ofNat 0)), (.int .i32 (.ofNat 0)), (.int .i32 (.ofNat 0)), (.int .i32 (.ofNat 0)), (.int .i32 (.ofNat 0)), (.int .i32 (.ofNat 0)), (.int .i32 (.ofNat 0)), (.int .i32 (.ofNat 0)), (.int .i32 (.ofNat 0)), (.int .i32 (.ofNat 0)), (.int .i32 (.ofNat 0)), (.int .i32 (.ofNat 0)), (.int .i32 (.ofNat 0)), (.int .i32 (.ofNat 0)), (.int .i32 (.ofNat 0)), (.int .i32 (.ofNat 0)), (.int .i32 (.ofNat 0)), (.int .i32 (.ofNat 0)), (.int .i32 (.ofNat 0)), (.int .i32 (.ofNat 0)), (.int .i32 (.ofNat 0)), (.int .i32 (.ofNat 0)), (.int .i32 (.ofNat 0)), (.int .i32 (.ofNat 0)), (.int .i32 (.ofNat 0)), (.int .i32 (.ofNat 0)), (.int .i32 (.ofNat 0)), (.int .i32 (.ofNat 0)), (.int .i32 (.ofNat 0)), (.int .i32 (.ofNat 0)), (.int .i32 (.ofNat 0)), (.int .i32 (.ofNat 0)), (.int .i32 (.ofNat 0)), (.int .i32 (.ofNat 0)), (.int .i32 (.ofNat 0)), (.int .i32 (.ofNat 0)), (.int .i32 (.ofNat 0)), (.int .i32 (.ofNat 0)), (.int .i32 (.ofNat 0)), (.int .i32 (.ofNat 0)), (.int .i32 (.ofNat 0)), (.int .i32 (.ofNat 0)), (.int .i32 (.ofNat 0)), (.int .i32 (.ofNat 0)), (.int .i32 (.ofNat 0)), (.int .i32 (.ofNat 0)), (.int .i32 (.ofNat 0)), (.int .i32 (.ofNat 0)), (.int .i32 (.ofNat 0)), (.int .i32 (.ofNat 0)), (.int .i32 (.ofNat 0)), (.int .i32 (.ofNat 0)), (.int .i32 (.ofNat 0)), (.int .i32 (.ofNat 0)), (.int .i32 (.ofNat 0))] []⟩,
  ⟨(some ⟨.d0, .d7, .d7⟩), none, .buildS none 64 1 [(.int .i32 (.ofNat 0)), (.int .i32 (.ofNat 0)), (.int .i32 (.ofNat 0)), (.int .i32 (.ofNat 0)), (.int .i32 (.ofNat 0)), (.int .i32 (.ofNat 0)), (.int .i32 (.ofNat 0)), (.int .i32 (.ofNat 0)), (.int .i32 (.ofNat 0)), (.int .i32 (.ofNat 0)), (.int .i32 (.ofNat 0)), (.int .i32 (.ofNat 0)), (.int .i32 (.ofNat 0)), (.int .i32 (.ofNat 0)), (.int .i32 (.ofNat 0)), (.int .i32 (.ofNat 0)), (.int .i32 (.ofNat 0)), (.int .i32 (.ofNat 0)), (.int .i32 (.ofNat 0)), (.int .i32 (.ofNat 0)), (.int .i32 (.ofNat 0)), (.int .i32 (.ofNat 0)), (.int .i32 (.ofNat 0)), (.int .i32 (.ofNat 0)), (.int .i32 (.ofNat 0)), (.int .i32 (.ofNat 0)), (.int .i32 (.ofNat 0)), (.int .i32 (.ofNat 0)), (.int .i32 (.ofNat 0)), (.int .i32 (.ofNat 0)), (.int .i32 (.ofNat 0)), (.int .i32 (.ofNat 0)), (.int .i32 (.ofNat 0)), (.int .i32 (.ofNat 0)), (.int .i32 (.ofNat 0)), (.int .i32 (.ofNat 0)), (.int .i32 (.ofNat 0)), (.int .i32 (.ofNat 0)), (.int .i32 (.ofNat 0)), (.int .i32 (.ofNat 0)), (.int .i32 (.ofNat 0)), (.int .i32 (.ofNat 0)), (.int .i32 (.ofNat 0)), (.int .i32 (.ofNat 0)), (.int .i32 (.ofNat 0)), (.int .i32 (.ofNat 0)), (.int .i32 (.ofNat 0)), (.int .i32 (.ofNat 0)), (.int .i32 (.ofNat 0)), (.int .i32 (.ofNat 0)), (.int .i32 (.ofNat 0)), (.int .i32 (.ofNat 0)), (.int .i32 (.ofNat 0)), (.int .i32 (.ofNat 0)), (.int .i32 (.ofNat 0)), (.int .i32 (.ofNat 0)), (.int .i32 (.ofNat 0)), (.int .i32 (.ofNat 0)), (.int .i32 (.ofNat 0)), (.int .i32 (.ofNat 0)), (.int .i32 (.ofNat 0)), (.int .i32 (.ofNat 0)), (.int .i32 (.ofNat 0)), (.int .i32 (.ofNat 0))] [(0, 64, (.t ⟨.d0, .d7, .d6⟩))]⟩,
  ⟨(some ⟨.d1, .d0, .d0⟩), none, .app 64 256 (.t ⟨.d0, .d7, .d5⟩) (.t ⟨.d0, .d7, .d7⟩)⟩,
  ⟨(some ⟨.d1, .d0, .d1⟩), none, .nilck (.t ⟨.d0, .d7, .d1⟩)⟩,
  ⟨(some ⟨.d1, .d0, .d2⟩), none, .fieldA 0 (.t ⟨.d1, .d0, .d1⟩)⟩,
  ⟨none, none, .store 1 (.t ⟨.d1, .d0, .d2⟩) (.t ⟨.d1, .d0, .d0⟩)⟩])
 (.ops [⟨(some ⟨.d1, .d0, .d3⟩), none, .mv (.t ⟨.d0, .d1, .d2⟩)⟩,
  ⟨(some ⟨.d1, .d0, .d4⟩), none, .build [(.int .i32 (.ofNat 0)), (.int .i32 (.ofNat 0)), (.int .i32 (.ofNat 0)), (.int .i32 (.ofNat 0)), (.int .i32 (.ofNat 0)), (.int .i32 (.ofNat 0)), (.int .i32 (.ofNat 0)), (.int .i32 (.ofNat 0)), (.int .i32 (.ofNat 0)), (.int .i32 (.ofNat 0)), (.int .i32 (.ofNat 0)), (.int .i32 (.ofNat 0)), (.int .i32 (.ofNat 0)), (.int .i32 (.ofNat 0)), (.int .i32 (.ofNat 0)), (.int .i32 (.ofNat 0)), (.int .i32 (.ofNat 0)), (.int .i32 (.ofNat 0)), (.int .i32 (.ofNat 0)), (.int .i32 (.ofNat 0)), (.int .i32 (.ofNat 0)), (.int .i32 (.ofNat 0)), (.int .i32 (.ofNat 0)), (.int .i32 (.ofNat 0)), (.int .i32 (.ofNat 0)), (.int .i32 (.ofNat 0)), (.int .i32 (.ofNat 0)), (.int .i32 (.ofNat 0)), (.int .i32 (.ofNat 0)), (.int .i32 (.ofNat 0)), (.int .i32 (.ofNat 0)), (.int .i32 (.ofNat 0)), (.int .i32 (.ofNat 0)), (.int .i32 (.ofNat 0)), (.int .i32 (.ofNat 0)), (.int .i32 (.ofNat 0)), (.int .i32 (.ofNat 0)), (.int .i32 (.ofNat 0)), (.int .i32 (.ofNat 0)), (.int .i32 (.ofNat 0)), (.int .i32 (.ofNat 0)), (.int .i32 (.ofNat 0)), (.int .i32 (.ofNat 0)), (.int .i32 (.ofNat 0)), (.int .i32 (.ofNat 0)), (.int .i32 (.ofNat 0)), (.int .i32 (.ofNat 0)), (.int .i32 (.ofNat 0)), (.int .i32 (.ofNat 0)), (.int .i32 (.ofNat 0)), (.int .i32 (.ofNat 0)), (.int .i32 (.ofNat 0)), (.int .i32 (.ofNat 0)), (.int .i32 (.ofNat 0)), (.int .i32 (.ofNat 0)), (.int .i32 (.ofNat 0)), (.int .i32 (.ofNat 0)), (.int .i32 (.ofNat 0)), (.int .i32 (.ofNat 0)), (.int .i32 (.ofNat 0)), (.int .i32 (.ofNat 0)), (.int .i32 (.ofNat 0)), (.int .i32 (.ofNat 0)), (.int .i32 (.ofNat 0))] []⟩,
  ⟨none, none, .upd (.flat [.i, .i, .i, .i, .i, .i, .i, .i, .i, .i, .i, .i, .i, .i, .i, .i, .i, .i, .i, .i, .i, .i, .i, .i, .i, .i, .i, .i, .i, .i, .i, .i, .i, .i, .i, .i, .i, .i, .i, .i, .i, .i, .i, .i, .i, .i, .i, .i, .i, .i, .i, .i, .i, .i, .i, .i, .i, .i, .i, .i, .i, .i, .i, .i]) (.t ⟨.d1, .d0, .d3⟩) (.t ⟨.d1, .d0, .d4⟩) (.c (.int .i64 (.ofNat 0)))⟩])) .skip))
 (.seq (.seq (.ops [⟨(some ⟨.d1, .d0, .d5⟩), none, .mv (.t ⟨.d0, .d0, .d5⟩)⟩,
  ⟨(some ⟨.d1, .d0, .d6⟩), none, .callF ⟨.d0, .d5, .d5⟩ [(.t ⟨.d1, .d0, .d5⟩)]⟩,
  ⟨(some ⟨.d1, .d0, .d7⟩), none, .callF ⟨.d0, .d5, .d4⟩ [(.t ⟨.d1, .d0, .d6⟩)]⟩,
  ⟨(some ⟨.d1, .d1, .d0⟩), none, .len .sli (.t ⟨.d1, .d0, .d7⟩)⟩,
  ⟨(some ⟨.d1, .d1, .d1⟩), none, .mv (.c (.int .i64 (.ofNat 0)))⟩])
 (.block 2 (.loop (.seq (.ops [⟨(some ⟨.d1, .d1, .d2⟩), none, .bin .lss (.t ⟨.d1, .d1, .d1⟩) (.t ⟨.d1, .d1, .d0⟩)⟩])
 (.seq (.cond (.t ⟨.d1, .d1, .d2⟩) .skip (.exit 2))
 (.seq (.block 3 (.seq (.ops [⟨(some ⟨.d1, .d1, .d3⟩), none, .idxA none 1 (.t ⟨.d1, .d0, .d7⟩) (.t ⟨.d1, .d1, .d1⟩)⟩,
  ⟨(some ⟨.d1, .d1, .d4⟩), none, .load none (.t ⟨.d1, .d1, .d3⟩)⟩,
  ⟨(some ⟨.d0, .d1, .d4⟩), none, .mv (.t ⟨.d1, .d1, .d4⟩)⟩])
 (.seq (.ops [⟨(some ⟨.d1, .d1, .d6⟩), none, .mv (.t ⟨.d0, .d1, .d2⟩)⟩,
  ⟨(some ⟨.d1, .d1, .d7⟩), none, .mv (.t ⟨.d0, .d0, .d5⟩)⟩,
  ⟨(some ⟨.d1, .d2, .d0⟩), none, .mv (.t ⟨.d0, .d1, .d4⟩)⟩,
  ⟨(some ⟨.d1, .d2, .d1⟩), none, .look (.prim .i) (.agg [(.int .i32 (.ofNat 0)), (.int .i32 (.ofNat 0)), (.int .i32 (.ofNat 0)), (.int .i32 (.ofNat 0)), (.int .i32 (.ofNat 0)), (.int .i32 (.ofNat 0)), (.int .i32 (.ofNat 0)), (.int .i32 (.ofNat 0)), (.int .i32 (.ofNat 0)), (.int .i32 (.ofNat 0)), (.int .i32 (.ofNat 0)), (.int .i32 (.ofNat 0)), (.int .i32 (.ofNat 0)), (.int .i32 (.ofNat 0)), (.int .i32 (.ofNat 0)), (.int .i32 (.ofNat 0)), (.int .i32 (.ofNat 0)), (.int .i32 (.ofNat 0)), (.int .i32 (.ofNat 0)), (.int .i32 (.ofNat 0)), (.int .i32 (.ofNat 0)), (.int .i32 (.ofNat 0)), (.int .i32 (.ofNat 0)), (.int .i32 (.ofNat 0)), (.int .i32 (.ofNat 0)), (.int .i32 (.ofNat 0)), (.int .i32 (.ofNat 0)), (.int .i32 (.ofNat 0)), (.int .i32 (.ofNat 0)), (.int .i32 (.ofNat 0)), (.int .i32 (.ofNat 0)), (.int .i32 (.ofNat 0)), (.int .i32 (.ofNat 0)), (.int .i32 (.ofNat 0)), (.int .i32 (.ofNat 0)), (.int .i32 (.ofNat 0)), (.int .i32 (.ofNat 0)), (.int .i32 (.ofNat 0)), (.int .i32 (.ofNat 0)), (.int .i32 (.ofNat 0)), (.int .i32 (.ofNat 0)), (.int .i32 (.ofNat 0)), (.int .i32 (.ofNat 0)), (.int .i32 (.ofNat 0)), (.int .i32 (.ofNat 0)), (.int .i32 (.ofNat 0)), (.int .i32 (.ofNat 0)), (.int .i32 (.ofNat 0)), (.int .i32 (.ofNat 0)), (.int .i32 (.ofNat 0)), (.int .i32 (.ofNat 0)), (.int .i32 (.ofNat 0)), (.int .i32 (.ofNat 0)), (.int .i32 (.ofNat 0)), (.int .i32 (.ofNat 0)), (.int .i32 (.ofNat 0)), (.int .i32 (.ofNat 0)), (.int .i32 (.ofNat 0)), (.int .i32 (.ofNat 0)), (.int .i32 (.ofNat 0)), (.int .i32 (.ofNat 0)), (.int .i32 (.ofNat 0)), (.int .i32 (.ofNat 0)), (.int .i32 (.ofNat 0))]) false (.t ⟨.d1, .d1, .d7⟩) (.t ⟨.d1, .d2, .d0⟩)⟩,
  ⟨(some ⟨.d1, .d2, .d2⟩), none, .look (.flat [.i, .i, .i, .i, .i, .i, .i, .i, .i, .i, .i, .i, .i, .i, .i, .i, .i, .i, .i, .i, .i, .i, .i, .i, .i, .i, .i, .i, .i, .i, .i, .i, .i, .i, .i, .i, .i, .i, .i, .i, .i, .i, .i, .i, .i, .i, .i, .i, .i, .i, .i, .i, .i, .i, .i, .i, .i, .i, .i, .i, .i, .i, .i, .i]) (.int .i64 (.ofNat 0)) true (.t ⟨.d1, .d1, .d6⟩) (.t ⟨.d1, .d2, .d1⟩)⟩,
  ⟨(some ⟨.d1, .d1, .d5⟩), none, .mv (.t ⟨.d1, .d2, .d2⟩)⟩,
  ⟨(some ⟨.d1, .d2, .d3⟩), none, .ext (.t ⟨.d1, .d1, .d5⟩) 0⟩,
  ⟨(some ⟨.d1, .d2, .d4⟩), none, .ext (.t ⟨.d1, .d1, .d5⟩) 1⟩,
  ⟨(some ⟨.d0, .d1, .d5⟩), none, .mv (.t ⟨.d1, .d2, .d3⟩)⟩,
  ⟨(some ⟨.d0, .d1, .d6⟩), none, .mv (.t ⟨.d1, .d2, .d4⟩)⟩])
 (.seq (.seq (.ops [⟨(some ⟨.d1, .d2, .d5⟩), none, .mv (.t ⟨.d0, .d1, .d6⟩)⟩,
  ⟨(some ⟨.d1, .d2, .d6⟩), none, .un .not (.t ⟨.d1, .d2, .d5⟩)⟩])
 (.cond (.t ⟨.d1, .d2, .d6⟩) (.seq (.ops [⟨(some ⟨.d1, .d2, .d7⟩), none, .mv (.t ⟨.d0, .d1, .d1⟩)⟩,
  ⟨(some ⟨.d1, .d3, .d0⟩), none, .nilck (.t ⟨.d1, .d2, .d7⟩)⟩,
  ⟨(some ⟨.d1, .d3, .d1⟩), none, .fieldA 0 (.t ⟨.d1, .d3, .d0⟩)⟩,
  ⟨(some ⟨.d1, .d3, .d2⟩), none, .load none (.t ⟨.d1, .d3, .d1⟩)⟩,
  ⟨(some ⟨.d1, .d3, .d3⟩), none, .len .sli (.t ⟨.d1, .d3, .d2⟩)⟩,
  ⟨(some ⟨.d0, .d1, .d5⟩), none, .mv (.t ⟨.d1, .d3, .d3⟩)⟩])
 (.seq (.reg 1 [(4, [9])] [⟨(some ⟨.d1, .d3, .d4⟩), none, .mv (.t ⟨.d0, .d1, .d1⟩)⟩,
  ⟨(some ⟨.d1, .d3, .d5⟩), none, .mv (.t ⟨.d0, .d1, .d1⟩)⟩,
  ⟨(some ⟨.d1, .d3, .d6⟩), none, .nilck (.t ⟨.d1, .d3, .d5⟩)⟩,
  ⟨(some ⟨.d1, .d3, .d7⟩), none, .fieldA 0 (.t ⟨.d1, .d3, .d6⟩)⟩,
  ⟨(some ⟨.d1, .d4, .d0⟩), none, .load none (.t ⟨.d1, .d3, .d7⟩)⟩,
  ⟨(some ⟨.d1, .d4, .d1⟩), none, .mv (.t ⟨.d0, .d0, .d5⟩)⟩,
  ⟨(some ⟨.d1, .d4, .d2⟩), none, .mv (.t ⟨.d0, .d1, .d4⟩)⟩,
  ⟨(some ⟨.d1, .d4, .d3⟩), none, .look (.prim .i) (.agg [(.int .i32 (.ofNat 0)), (.int .i32 (.ofNat 0)), (.int .i32 (.ofNat 0)), (.int .i32 (.ofNat 0)), (.int .i32 (.ofNat 0)), (.int .i32 (.ofNat 0)), (.int .i32 (.ofNat 0)), (.int .i32 (.ofNat 0)), (.int .i32 (.ofNat 0)), (.int .i32 (.ofNat 0)), (.int .i32 (.ofNat 0)), (.int .i32 (.ofNat 0)), (.int .i32 (.ofNat 0)), (.int .i32 (.ofNat 0)), (.int .i32 (.ofNat 0)), (.int .i32 (.ofNat 0)), (.int .i32 (.ofNat 0)), (.int .i32 (.ofNat 0)), (.int .i32 (.ofNat 0)), (.int .i32 (.ofNat 0)), (.int .i32 (.ofNat 0)), (.int .i32 (.ofNat 0)), (.int .i32 (.ofNat 0)), (.int .i32 (.ofNat 0)), (.int .i32 (.ofNat 0)), (.int .i32 (.ofNat 0)), (.int .i32 (.ofNat 0)), (.int .i32 (.ofNat 0)), (.int .i32 (.ofNat 0)), (.int .i32 (.ofNat 0)), (.int .i32 (.ofNat 0)), (.int .i32 (.ofNat 0)), (.int .i32 (.ofNat 0)), (.int .i32 (.ofNat 0)), (.int .i32 (.ofNat 0)), (.int .i32 (.ofNat 0)), (.int .i32 (.ofNat 0)), (.int .i32 (.ofNat 0)), (.int .i32 (.ofNat 0)), (.int .i32 (.ofNat 0)), (.int .i32 (.ofNat 0)), (.int .i32 (.ofNat 0)), (.int .i32 (.ofNat 0)), (.int .i32 (.ofNat 0)), (.int .i32 (.ofNat 0)), (.int .i32 (.ofNat 0)), (.int .i32 (.ofNat 0)), (.int .i32 (.ofNat 0)), (.int .i32 (.ofNat 0)), (.int .i32 (.ofNat 0)), (.int .i32 (.ofNat 0)), (.int .i32 (.ofNat 0)), (.int .i32 (.ofNat 0)), (.int .i32 (.ofNat 0)), (.int .i32 (.ofNat 0)), (.int .i32 (.ofNat 0)), (.int .i32 (.ofNat 0)), (.int .i32 (.ofNat 0)), (.int .i32 (.ofNat 0)), (.int .i32 (.ofNat 0)), (.int .i32 (.ofNat 0)), (.int .i32 (.ofNat 0)), (.int .i32 (.ofNat 0)), (.int .i32 (.ofNat 0))]) false (.t ⟨.d1, .d4, .d1⟩) (.t ⟨.d1, .d4, .d2⟩)⟩,
  ⟨(some ⟨.d1, .d4, .d4⟩), none, .buildS (some 0) 64 1 [(.int .i32 (.ofNat 0)), (.int .i32 (.ofNat 0)), (.int .i32 (.ofNat 0)), (.int .i32 (.ofNat 0)), (.int .i32 (.ofNat 0)), (.int .i32 (.ofNat 0)), (.int .i32 (.ofNat 0)), (.int .i32 (.ofNat 0)), (.int .i32 (.ofNat 0)), (.int .i32 (.ofNat 0)), (.int .i32 (.ofNat 0)), (.int .i32 (.ofNat 0)), (.int .i32 (.ofNat 0)), (.int .i32 (.ofNat 0)), (.int .i32 (.ofNat 0)), (.int .i32 (.ofNat 0)), (.int .i32 (.ofNat 0)), (.int .i32 (.ofNat 0)), (.int .i32 (.ofNat 0)), (.int .i32 (.ofNat 0)), (.int .i32 (.ofNat 0)), (.int .i32 (.ofNat 0)), (.int .i32 (.ofNat 0)), (.int .i32 (.ofNat 0)), (.int .i32 (.ofNat 0)), (.int .i32 (.ofNat 0)), (.int .i32 (.ofNat 0)), (.int .i32 (.ofNat 0)), (.int .i32 (.ofNat 0)), (.int .i32 (.ofNat 0)), (.int .i32 (.ofNat 0)), (.int .i32 (.ofNat 0)), (.int .i32 (.ofNat 0)), (.int .i32 (.ofNat 0)), (.int .i32 (.ofNat 0)), (.int .i32 (.ofNat 0)), (.int .i32 (.ofNat 0)), (.int .i32 (.ofNat 0)), (.int .i32 (.ofNat 0)), (.int .i32 (.ofNat 0)), (.int .i32 (.ofNat 0)), (.int .i32 (.ofNat 0)), (.int .i32 (.ofNat 0)), (.int .i32 (.ofNat 0)), (.int .i32 (.ofNat 0)), (.int .i32 (.ofNat 0)), (.int .i32 (.ofNat 0)), (.int .i32 (.ofNat 0)), (.int .i32 (.ofNat 0)), (.int .i32 (.ofNat 0)), (.int .i32 (.ofNat 0)), (.int .i32 (.ofNat 0)), (.int .i32 (.ofNat 0)), (.int .i32 (.ofNat 0)), (.int .i32 (.ofNat 0)), (.int .i32 (.ofNat 0)), (.int .i32 (.ofNat 0)), (.int .i32 (.ofNat 0)), (.int .i32 (.ofNat 0)), (.int .i32 (.ofNat 0)), (.int .i32 (.ofNat 0)), (.int .i32 (.ofNat 0)), (.int .i32 (.ofNat 0)), (.int .i32 (.ofNat 0))] [(0, 64, (.t ⟨.d1, .d4, .d3⟩))]⟩,
  ⟨(some ⟨.d1, .d4, .d5⟩), none, .app 64 256 (.t ⟨.d1, .d4, .d0⟩) (.t ⟨.d1, .d4, .d4⟩)⟩,
  ⟨(some ⟨.d1, .d4, .d6⟩), none, .nilck (.t ⟨.d1, .d3, .d4⟩)⟩,
  ⟨(some ⟨.d1, .d4, .d7⟩), none, .fieldA 0 (.t ⟨.d1, .d4, .d6⟩)⟩,
  ⟨none, none, .store 1 (.t ⟨.d1, .d4, .d7⟩) (.t ⟨.d1, .d4, .d5⟩)⟩])
 (.ops [⟨(some ⟨.d1, .d5, .d0⟩), none, .mv (.t ⟨.d0, .d1, .d2⟩)⟩,
  ⟨(some ⟨.d1, .d5, .d1⟩), none, .mv (.t ⟨.d0, .d0, .d5⟩)⟩,
  ⟨(some ⟨.d1, .d5, .d2⟩), none, .mv (.t ⟨.d0, .d1, .d4⟩)⟩,
  ⟨(some ⟨.d1, .d5, .d3⟩), none, .look (.prim .i) (.agg [(.int .i32 (.ofNat 0)), (.int .i32 (.ofNat 0)), (.int .i32 (.ofNat 0)), (.int .i32 (.ofNat 0)), (.int .i32 (.ofNat 0)), (.int .i32 (.ofNat 0)), (.int .i32 (.ofNat 0)), (.int .i32 (.ofNat 0)), (.int .i32 (.ofNat 0)), (.int .i32 (.ofNat 0)), (.int .i32 (.ofNat 0)), (.int .i32 (.ofNat 0)), (.int .i32 (.ofNat 0)), (.int .i32 (.ofNat 0)), (.int .i32 (.ofNat 0)), (.int .i32 (.ofNat 0)), (.int .i32 (.ofNat 0)), (.int .i32 (.ofNat 0)), (.int .i32 (.ofNat 0)), (.int .i32 (.ofNat 0)), (.int .i32 (.ofNat 0)), (.int .i32 (.ofNat 0)), (.int .i32 (.ofNat 0)), (.int .i32 (.ofNat 0)), (.int .i32 (.ofNat 0)), (.int .i32 (.ofNat 0)), (.int .i32 (.ofNat 0)), (.int .i32 (.ofNat 0)), (.int .i32 (.ofNat 0)), (.int .i32 (.ofNat 0)), (.int .i32 (.ofNat 0)), (.int .i32 (.ofNat 0)), (.int .i32 (.ofNat 0)), (.int .i32 (.ofNat 0)), (.int .i32 (.ofNat 0)), (.int .i32 (.ofNat 0)), (.int .i32 (.ofNat 0)), (.int .i32 (.ofNat 0)), (.int .i32 (.ofNat 0)), (.int .i32 (.ofNat 0)), (.int .i32 (.ofNat 0)), (.int .i32 (.ofNat 0)), (.int .i32 (.ofNat 0)), (.int .i32 (.ofNat 0)), (.int .i32 (.ofNat 0)), (.int .i32 (.ofNat 0)), (.int .i32 (.ofNat 0)), (.int .i32 (.ofNat 0)), (.int .i32 (.ofNat 0)), (.int .i32 (.ofNat 0)), (.int .i32 (.ofNat 0)), (.int .i32 (.ofNat 0)), (.int .i32 (.ofNat 0)), (.int .i32 (.ofNat 0)), (.int .i32 (.ofNat 0)), (.int .i32 (.ofNat 0)), (.int .i32 (.ofNat 0)), (.int .i32 (.ofNat 0)), (.int .i32 (.ofNat 0)), (.int .i32 (.ofNat 0)), (.int .i32 (.ofNat 0)), (.int .i32 (.ofNat 0)), (.int .i32 (.ofNat 0)), (.int .i32 (.ofNat 0))]) false (.t ⟨.d1, .d5, .d1⟩) (.t ⟨.d1, .d5, .d2⟩)⟩,
  ⟨(some ⟨.d1, .d5, .d4⟩), none, .mv (.t ⟨.d0, .d1, .d5⟩)⟩,
  ⟨none, none, .upd (.flat [.i, .i, .i, .i, .i, .i, .i, .i, .i, .i, .i, .i, .i, .i, .i, .i, .i, .i, .i, .i, .i, .i, .i, .i, .i, .i, .i, .i, .i, .i, .i, .i, .i, .i, .i, .i, .i, .i, .i, .i, .i, .i, .i, .i, .i, .i, .i, .i, .i, .i, .i, .i, .i, .i, .i, .i, .i, .i, .i, .i, .i, .i, .i, .i]) (.t ⟨.d1, .d5, .d0⟩) (.t ⟨.d1, .d5, .d3⟩) (.t ⟨.d1, .d5, .d4⟩)⟩]))) .skip))
 (.ops [⟨(some ⟨.d1, .d5, .d5⟩), none, .mv (.t ⟨.d0, .d1, .d1⟩)⟩,
  ⟨(some ⟨.d1, .d5, .d6⟩), none, .nilck (.t ⟨.d1, .d5, .d5⟩)⟩,
  ⟨(some ⟨.d1, .d5, .d7⟩), none, .fieldA 1 (.t ⟨.d1, .d5, .d6⟩)⟩,
  ⟨(some ⟨.d1, .d6, .d0⟩), none, .load none (.t ⟨.d1, .d5, .d7⟩)⟩,
  ⟨(some ⟨.d1, .d6, .d1⟩), none, .mv (.t ⟨.d0, .d1, .d4⟩)⟩,
  ⟨(some ⟨.d1, .d6, .d2⟩), none, .mv (.t ⟨.d0, .d1, .d5⟩)⟩,
  ⟨none, none, .upd (.prim .i) (.t ⟨.d1, .d6, .d0⟩) (.t ⟨.d1, .d6, .d1⟩) (.t ⟨.d1, .d6, .d2⟩)⟩])))))
 (.ops [⟨(some ⟨.d1, .d6, .d3⟩), none, .bin .add (.t ⟨.d1, .d1, .d1⟩) (.c (.int .i64 (.ofNat 1)))⟩,
  ⟨(some ⟨.d1, .d1, .d1⟩), none, .mv (.t ⟨.d1, .d6, .d3⟩)⟩])))))))
 (.seq (.ops [⟨(some ⟨.d1, .d6, .d4⟩), none, .mv (.t ⟨.d0, .d1, .d1⟩)⟩,
  ⟨(some ⟨.d0, .d0, .d2⟩), none, .mv (.t ⟨.d1, .d6, .d4⟩)⟩,
  ⟨(some ⟨.d0, .d0, .d3⟩), none, .mv (.c (.int .i64 (.ofNat 0)))⟩])
 .ret))))))))))
 [.tmp ⟨.d0, .d0, .d2⟩, .tmp ⟨.d0, .d0, .d3⟩]
/-- slices.ContainsFunc[[]umlaut/trie.Pair,umlaut/trie.Pair] -/
def e41 : Ent := .code [⟨.d0, .d0, .d0⟩, ⟨.d0, .d0, .d1⟩]
 (.seq (.ops [⟨(some ⟨.d0, .d0, .d4⟩), none, .mv (.c (.bool false))⟩])
 (.seq (.ops [⟨(some ⟨.d0, .d0, .d5⟩), none, .mv (.t ⟨.d0, .d0, .d0⟩)⟩,
  ⟨(some ⟨.d0, .d0, .d6⟩), none, .mv (.t ⟨.d0, .d0, .d1⟩)⟩,
  ⟨(some ⟨.d0, .d0, .d7⟩), none, .callF ⟨.d0, .d6, .d4⟩ [(.t ⟨.d0, .d0, .d5⟩), (.t ⟨.d0, .d0, .d6⟩)]⟩,
  ⟨(some ⟨.d0, .d1, .d0⟩), none, .bin .geq (.t ⟨.d0, .d0, .d7⟩) (.c (.int .i64 (.ofNat 0)))⟩,
  ⟨(some ⟨.d0, .d0, .d4⟩), none, .mv (.t ⟨.d0, .d1, .d0⟩)⟩])
 .ret))
 [.tmp ⟨.d0, .d0, .d4⟩]
/-- umlaut/trie.Build$1 -/
def e42 : Ent := .code [⟨.d0, .d0, .d0⟩]
 (.seq (.ops [⟨(some ⟨.d0, .d0, .d1⟩), none, .box none (.t ⟨.d0, .d0, .d0⟩)⟩,
  ⟨(some ⟨.d0, .d0, .d2⟩), none, .mv (.c (.bool false))⟩])
 (.seq (.ops [⟨(some ⟨.d0, .d0, .d3⟩), none, .load (some 2) (.t ⟨.d0, .d0, .d1⟩)⟩,
  ⟨(some ⟨.d0, .d0, .d4⟩), none, .callF ⟨.d0, .d5, .d3⟩ [(.t ⟨.d0, .d0, .d3⟩)]⟩,
  ⟨(some ⟨.d0, .d0, .d5⟩), none, .un .not (.t ⟨.d0, .d0, .d4⟩)⟩,
  ⟨(some ⟨.d0, .d0, .d2⟩), none, .mv (.t ⟨.d0, .d0, .d5⟩)⟩])
 .ret))
 [.tmp ⟨.d0, .d0, .d2⟩]
/-- umlaut/trie.valid -/
def e43 : Ent := .code [⟨.d0, .d0, .d0⟩]
 (.seq (.ops [⟨(some ⟨.d0, .d0, .d1⟩), none, .box none (.t ⟨.d0, .d0, .d0⟩)⟩,
  ⟨(some ⟨.d0, .d0, .d2⟩), none, .mv (.c (.bool false))⟩])
 (.seq (.ops [⟨(some ⟨.d0, .d0, .d3⟩), none, .fieldA 0 (.t ⟨.d0, .d0, .d1⟩)⟩,
  ⟨(some ⟨.d0, .d0, .d4⟩), none, .load none (.t ⟨.d0, .d0, .d3⟩)⟩,
  ⟨(some ⟨.d0, .d0, .d5⟩), none, .bin .geq (.t ⟨.d0, .d0, .d4⟩) (.c (.int .i64 (.ofNat 0)))⟩,
  ⟨(some ⟨.d0, .d0, .d6⟩), none, .mv (.t ⟨.d0, .d0, .d5⟩)⟩,
  ⟨(some ⟨.d0, .d0, .d7⟩), (some (⟨.d0, .d0, .d6⟩, true)), .fieldA 0 (.t ⟨.d0, .d0, .d1⟩)⟩,
  ⟨(some ⟨.d0, .d1, .d0⟩), (some (⟨.d0, .d0, .d6⟩, true)), .load none (.t ⟨.d0, .d0, .d7⟩)⟩,
  ⟨(some ⟨.d0, .d1, .d1⟩), (some (⟨.d0, .d0, .d6⟩, true)), .bin .leq (.t ⟨.d0, .d1, .d0⟩) (.c (.int .i64 (.ofNat 1114367)))⟩,
  ⟨(some ⟨.d0, .d1, .d2⟩), none, .pick (.t ⟨.d0, .d0, .d6⟩) (.t ⟨.d0, .d1, .d1⟩) (.c (.bool false))⟩,
  ⟨(some ⟨.d0, .d1, .d3⟩), none, .mv (.t ⟨.d0, .d1, .d2⟩)⟩,
  ⟨(some ⟨.d0, .d1, .d4⟩), (some (⟨.d0, .d1, .d3⟩, true)), .fieldA 1 (.t ⟨.d0, .d0, .d1⟩)⟩,
  ⟨(some ⟨.d0, .d1, .d5⟩), (some (⟨.d0, .d1, .d3⟩, true)), .load none (.t ⟨.d0, .d1, .d4⟩)⟩,
  ⟨(some ⟨.d0, .d1, .d6⟩), (some (⟨.d0, .d1, .d3⟩, true)), .bin .geq (.t ⟨.d0, .d1, .d5⟩) (.c (.int .i64 (.negSucc 2147483647)))⟩,
  ⟨(some ⟨.d0, .d1, .d7⟩), none, .pick (.t ⟨.d0, .d1, .d3⟩) (.t ⟨.d0, .d1, .d6⟩) (.c (.bool false))⟩,
  ⟨(some ⟨.d0, .d2, .d0⟩), none, .mv (.t ⟨.d0, .d1, .d7⟩)⟩,
  ⟨(some ⟨.d0, .d2, .d1⟩), (some (⟨.d0, .d2, .d0⟩, true)), .fieldA 1 (.t ⟨.d0, .d0, .d1⟩)⟩,
  ⟨(some ⟨.d0, .d2, .d2⟩), (some (⟨.d0, .d2, .d0⟩, true)), .load none (.t ⟨.d0, .d2, .d1⟩)⟩,
  ⟨(some ⟨.d0, .d2, .d3⟩), (some (⟨.d0, .d2, .d0⟩, true)), .bin .leq (.t ⟨.d0, .d2, .d2⟩) (.c (.int .i64 (.ofNat 2147483647)))⟩,
  ⟨(some ⟨.d0, .d2, .d4⟩), none, .pick (.t ⟨.d0, .d2, .d0⟩) (.t ⟨.d0, .d2, .d3⟩) (.c (.bool false))⟩,
  ⟨(some ⟨.d0, .d0, .d2⟩), none, .mv (.t ⟨.d0, .d2, .d4⟩)⟩])
 .ret))
 [.tmp ⟨.d0, .d0, .d2⟩]
/-- maps.Keys[map[int]umlaut/trie.block,int,umlaut/trie.block] -/
def e45 : Ent := .code [⟨.d0, .d0, .d0⟩]
 (.seq (.ops [⟨(some ⟨.d0, .d0, .d1⟩), none, .box none (.t ⟨.d0, .d0, .d0⟩)⟩,
  ⟨(some ⟨.d0, .d0, .d2⟩), none, .mv (.c .nilf)⟩])
 (.seq (.ops [⟨(some ⟨.d0, .d0, .d3⟩), none, .mkfn 55 [] [(.t ⟨.d0, .d0, .d1⟩)]⟩,
  ⟨(some ⟨.d0, .d0, .d2⟩), none, .mv (.t ⟨.d0, .d0, .d3⟩)⟩])
 .ret))
 [.tmp ⟨.d0, .d0, .d2⟩]
/-- slices.IndexFunc[[]umlaut/trie.Pair,umlaut/trie.Pair] -/
def e52 : Ent := .code [⟨.d0, .d0, .d0⟩, ⟨.d0, .d0, .d1⟩]
 (.seq (.ops [⟨(some ⟨.d0, .d0, .d4⟩), none, .mv (.c (.int .i64 (.ofNat 0)))⟩])
 (.seq (.seq (.ops [⟨(some ⟨.d0, .d0, .d6⟩), none, .mv (.t ⟨.d0, .d0, .d0⟩)⟩,
  ⟨(some ⟨.d0, .d0, .d7⟩), none, .len .sli (.t ⟨.d0, .d0, .d6⟩)⟩,
  ⟨(some ⟨.d0, .d1, .d0⟩), none, .mv (.c (.int .i64 (.ofNat 0)))⟩])
 (.block 0 (.loop (.seq (.ops [⟨(some ⟨.d0, .d1, .d1⟩), none, .bin .lss (.t ⟨.d0, .d1, .d0⟩) (.t ⟨.d0, .d0, .d7⟩)⟩])
 (.seq (.cond (.t ⟨.d0, .d1, .d1⟩) .skip (.exit 0))
 (.seq (.block 1 (.seq (.ops [⟨(some ⟨.d0, .d1, .d2⟩), none, .mv (.t ⟨.d0, .d1, .d0⟩)⟩,
  ⟨(some ⟨.d0, .d0, .d5⟩), none, .mv (.t ⟨.d0, .d1, .d2⟩)⟩])
 (.seq (.ops [⟨(some ⟨.d0, .d1, .d3⟩), none, .mv (.t ⟨.d0, .d0, .d1⟩)⟩,
  ⟨(some ⟨.d0, .d1, .d4⟩), none, .mv (.t ⟨.d0, .d0, .d0⟩)⟩,
  ⟨(some ⟨.d0, .d1, .d5⟩), none, .mv (.t ⟨.d0, .d0, .d5⟩)⟩,
  ⟨(some ⟨.d0, .d1, .d6⟩), none, .idxA none 2 (.t ⟨.d0, .d1, .d4⟩) (.t ⟨.d0, .d1, .d5⟩)⟩,
  ⟨(some ⟨.d0, .d1, .d7⟩), none, .load (some 2) (.t ⟨.d0, .d1, .d6⟩)⟩,
  ⟨(some ⟨.d0, .d2, .d0⟩), none, .callV (.t ⟨.d0, .d1, .d3⟩) [(.t ⟨.d0, .d1, .d7⟩)]⟩])
 (.cond (.t ⟨.d0, .d2, .d0⟩) (.seq (.ops [⟨(some ⟨.d0, .d2, .d1⟩), none, .mv (.t ⟨.d0, .d0, .d5⟩)⟩,
  ⟨(some ⟨.d0, .d0, .d4⟩), none, .mv (.t ⟨.d0, .d2, .d1⟩)⟩])
 .ret) .skip))))
 (.ops [⟨(some ⟨.d0, .d2, .d2⟩), none, .bin .add (.t ⟨.d0, .d1, .d0⟩) (.c (.int .i64 (.ofNat 1)))⟩,
  ⟨(some ⟨.d0, .d1, .d0⟩), none, .mv (.t ⟨.d0, .d2, .d2⟩)⟩])))))))
 (.seq (.ops [⟨(some ⟨.d0, .d0, .d4⟩), none, .mv (.c (.int .i64 (.negSucc 0)))⟩])
 .ret)))
 [.tmp ⟨.d0, .d0, .d4⟩]
def FT : F3 Ent := ⟨⟨(N8.rep .none), (N8.rep .none), ⟨.none, .none, .none, e19, .none, .none, .none, .none⟩, ⟨.none, .none, .none, .none, e28, e29, .none, .none⟩, (N8.rep .none), ⟨.none, e41, e42, e43, .none, e45, .none, .none⟩, ⟨.none, .none, .none, .none, e52, .none, .none, .none⟩, (N8.rep .none)⟩,
 (N8.rep (N8.rep .none)),
 (N8.rep (N8.rep .none)),
 (N8.rep (N8.rep .none)),
 (N8.rep (N8.rep .none)),
 (N8.rep (N8.rep .none)),
 (N8.rep (N8.rep .none)),
 (N8.rep (N8.rep .none))⟩
end
end Go.Dk.Run
namespace Go.Dk.Run
open Go Go.Dk Go.RowKit Go.Proofs
noncomputable section
/-- The signs, in the order in which they are put. -/
def Cs : List Nat := [32, 95, 45, 44, 46, 39, 48, 49, 50, 51, 52, 53, 54, 55, 56, 57, 97, 65, 98, 66, 99, 67, 100, 68, 101, 69, 102, 70, 103, 71, 104, 72, 105, 73, 106, 74, 107, 75, 108, 76, 109, 77, 110, 78, 111, 79, 112, 80, 113, 81, 114, 82, 115, 83, 116, 84, 117, 85, 118, 86, 119, 87, 120, 88, 121, 89, 122, 90, 768, 769, 770, 771, 772, 776, 778, 807, 192, 224, 193, 225, 194, 226, 195, 227, 196, 228, 197, 229, 199, 231, 200, 232, 201, 233, 202, 234, 203, 235, 204, 236, 205, 237, 206, 238, 207, 239, 209, 241, 210, 242, 211, 243, 212, 244, 213, 245, 214, 246, 217, 249, 218, 250, 219, 251, 220, 252, 221, 253, 223, 198, 230, 173]
def callsOkB (P : Program) (f : FuncId) : Bool := match P.funcs[f]? with | some fn => fn.body.isSome && decide (fn.name ≠ "runtime.NumGoroutine") | none => false
theorem callsOk {P : Program} {f : FuncId} (h : callsOkB P f = true) : CallsOk P f := by
  unfold callsOkB at h
  split at h
  · rename_i fn hf
    rw [Bool.and_eq_true] at h
    exact ⟨fn, hf, h.1, of_decide_eq_true h.2⟩
  · cases h
def isCode (e : Ent) : Bool := match e with | .code .. => true | _ => false
theorem ent_code [Keep] {P : Program} {k : I3} {e : Ent} (h : entOf P k.num = some e) (hb : callsOkB P k.num = true) (hc : isCode e = true) : EntOk P k e := by
  cases e with
  | none => cases hc
  | code ps b rs => exact ⟨h, callsOk hb⟩
  | law f => cases hc
theorem mixed : Tryz.prog.follows .mixedOrders = true := by kernel_rfl
abbrev i19 : I3 := ⟨.d0, .d2, .d3⟩
abbrev i28 : I3 := ⟨.d0, .d3, .d4⟩
abbrev i29 : I3 := ⟨.d0, .d3, .d5⟩
abbrev i41 : I3 := ⟨.d0, .d5, .d1⟩
abbrev i42 : I3 := ⟨.d0, .d5, .d2⟩
abbrev i43 : I3 := ⟨.d0, .d5, .d3⟩
abbrev i44 : I3 := ⟨.d0, .d5, .d4⟩
abbrev i45 : I3 := ⟨.d0, .d5, .d5⟩
abbrev i52 : I3 := ⟨.d0, .d6, .d4⟩
section
variable [Keep]
theorem ok28 : EntOk Tryz.prog i28 e28 := ent_code (by kernel_rfl) (by kernel_rfl) rfl
theorem ok41 : EntOk Tryz.prog i41 e41 := ent_code (by kernel_rfl) (by kernel_rfl) rfl
theorem ok42 : EntOk Tryz.prog i42 e42 := ent_code (by kernel_rfl) (by kernel_rfl) rfl
theorem ok43 : EntOk Tryz.prog i43 e43 := ent_code (by kernel_rfl) (by kernel_rfl) rfl
theorem ok45 : EntOk Tryz.prog i45 e45 := ent_code (by kernel_rfl) (by kernel_rfl) rfl
theorem ok52 : EntOk Tryz.prog i52 e52 := ent_code (by kernel_rfl) (by kernel_rfl) rfl
theorem ok_set {P : Program} {FT : F3 Ent} {i : I3} {e : Ent} (h : ∀ k, EntOk P k (get3 k FT)) (he : EntOk P i e) : ∀ k, EntOk P k (get3 k (set3 i e FT)) := by
  intro k
  rw [get_set3]
  by_cases e1 : i = k
  · rw [if_pos e1, ← e1]; exact he
  · rw [if_neg e1]; exact h k
theorem ok_nil {P : Program} : ∀ k, EntOk P k (get3 k (rep3 Ent.none)) := fun k => by rw [get_rep3]; exact trivial
end
def FTa : F3 Ent := set3 i28 e28 (set3 i42 e42 (set3 i43 e43 (rep3 .none)))
theorem okFTa [Keep] : ∀ k, EntOk Tryz.prog k (get3 k FTa) := ok_set (ok_set (ok_set ok_nil ok43) ok42) ok28
/-! The closure of trie.Build -/
def pairA (c : Nat) : AV := .agg [.int .i64 (.ofNat c), .int .i64 (.ofNat 1)]
def isF (o : Option (AV × H)) : Bool := match o with | some (.bool false, _) => true | _ => false
theorem run42 : (Cs.all fun c => isF (callN FTa 20 i42 [pairA c] σE)) = true := by kernel_rfl
def g42 (args : List AV) (_ : H) : Option AV := match args with | [.agg [.int .i64 (.ofNat c), .int .i64 (.ofNat 1)]] => if Cs.contains c then some (.bool false) else none | _ => none
theorem isF_inv {o : Option (AV × H)} (h : isF o = true) : ∃ σ, o = some (.bool false, σ) := by
  unfold isF at h
  split at h
  · exact ⟨_, rfl⟩
  · cases h
theorem VRs.ints {φ φ' : Emb} {l : List AV} {l' : List Value} (hl : ∀ x ∈ l, ∃ k n, x = .int k n) (h : VRs φ l l') : VRs φ' l l' := by
  induction l generalizing l' with
  | nil => cases h; exact .nil
  | cons x l ih =>
    cases h with
    | cons _ v _ r h t =>
      obtain ⟨k, n, rfl⟩ := hl x (by simp)
      cases h
      exact .cons _ _ _ _ (.int _ _) (ih (fun y hy => hl y (by simp [hy])) t)
theorem VR.aggInts {φ φ' : Emb} {l : List AV} {v : Value} (hl : ∀ x ∈ l, ∃ k n, x = .int k n) (h : VR φ (.agg l) v) : VR φ' (.agg l) v := by
  cases h with
  | agg _ l' h h1 => exact .agg _ _ (VRs.ints hl h) h1
theorem law42 [Keep] : EntOk Tryz.prog i42 (.law (lawG g42)) := by
  refine ent_law (callsOk (by kernel_rfl)) fun φ σ w args args' v hG hH hv hg => ?_
  unfold g42 at hg
  split at hg
  · rename_i c
    by_cases hc : Cs.contains c = true
    · rw [if_pos hc] at hg
      cases hg
      have := List.all_eq_true.1 run42 c (by simpa using hc)
      obtain ⟨σ1, hrun⟩ := isF_inv this
      have hv' : VRs (glob φ) [pairA c] args' := by
        cases hv with
        | cons _ u _ r h t => cases t; exact .cons _ _ _ _ (VR.aggInts (by simp) h) .nil
      refine (calls_fresh mixed (fun [Keep] => okFTa) hrun hG (w := w) hv').mono ?_
      rintro e w' ⟨φ', v', rfl, h1, h2, h3⟩
      cases h1
      exact ⟨⟨_, rfl, .bool _⟩, ⟨h3.os, h3.tape, h3.output, h3.size, fun k hk => kw_kept h2 hk⟩⟩
    · rw [if_neg hc] at hg; cases hg
  · cases hg
/-! signs -/
def keyA (c : Nat) : AV := .agg [.int .i64 (.ofNat (c + 1)), .int .i64 (.ofNat 0), .int .i64 (.ofNat 0)]
def isS1 (c : Nat) (o : Option (AV × H)) : Bool := match o with
  | some (.slice b 0 1 1 none, σ) => (match σ.blk b with | some (.cells t _) => (match t.get 0 with | some (.int .i64 (.ofNat m)) => m == c | _ => false) | _ => false)
  | _ => false
theorem run28 : (Cs.all fun c => isS1 c (callN FTa 20 i28 [keyA c] σE)) = true := by kernel_rfl
theorem isS1_inv {c : Nat} {o : Option (AV × H)} (h : isS1 c o = true) : ∃ b σ t m, o = some (.slice b 0 1 1 none, σ) ∧ σ.blk b = some (.cells t m) ∧ t.get 0 = some (.int .i64 (.ofNat c)) := by
  unfold isS1 at h
  split at h
  · rename_i b σ
    split at h
    · rename_i t m hb
      split at h
      · rename_i k ht
        have : k = c := by simpa using h
        subst this
        exact ⟨b, σ, t, m, rfl, hb, ht⟩
      · cases h
    · cases h
  · cases h
def g28 (args : List AV) (_ : H) : Option (Blk × (Id → AV)) := match args with
  | [.agg [.int .i64 (.ofNat (c + 1)), .int .i64 (.ofNat 0), .int .i64 (.ofNat 0)]] => if Cs.contains c then some (cellsB [.int .i64 (.ofNat c)], fun b => .slice b 0 1 1 none) else none
  | _ => none
theorem law28 [Keep] : EntOk Tryz.prog i28 (.law (lawN g28)) := by
  refine ent_new (callsOk (by kernel_rfl)) fun φ σ w args args' x mk hG hH hv hg => ?_
  unfold g28 at hg
  split at hg
  · rename_i c
    by_cases hc : Cs.contains c = true
    · rw [if_pos hc] at hg
      cases hg
      have := List.all_eq_true.1 run28 c (by simpa using hc)
      obtain ⟨b, σ1, t, m, hrun, hb, ht⟩ := isS1_inv this
      have hv' : VRs (glob φ) [keyA c] args' := by
        cases hv with
        | cons _ u _ r h t => cases t; exact .cons _ _ _ _ (VR.aggInts (by simp) h) .nil
      refine (calls_fresh mixed (fun [Keep] => okFTa) hrun hG (w := w) hv').mono ?_
      rintro e w' ⟨φ', v', rfl, h1, h2, h3⟩
      cases h1 with
      | sliceU _ _ _ _ cap cc z hφ hn hz =>
        obtain ⟨c1, z1, h4, h5⟩ := @HR.blk (kw w none []) _ _ _ h2 b _ hb
        rw [hφ] at h4; cases h4
        obtain ⟨cur, e1, h6, h7, h8, h9⟩ := h5
        obtain ⟨_, _, u, h10, h11⟩ := h9 0 _ ht
        cases h11
        refine ⟨cc, z, _, rfl, kw_new_lt h2 hb hφ, fun φ2 => ⟨cur, e1, h6, h7, ?_, fun k x hk => ?_⟩, fun φ2 b2 _ hb2 => .sliceU _ _ _ _ cap cc z hb2 hn hz, hH.old fun k hk => kw_kept h2 hk, h3, fun k hk _ => kw_kept h2 hk⟩
        · show 1 ≤ z
          omega
        · replace hk : (T.lay [AV.int .i64 (.ofNat c)] 0 .nil).get k = some x := hk
          rw [T.lay_get] at hk
          by_cases hk0 : k = 0
          · subst hk0
            have : some (AV.int .i64 (.ofNat c)) = some x := hk
            cases this
            exact ⟨Nat.zero_lt_one, rfl, _, h10, .int _ _⟩
          · rw [if_neg (by simp; omega)] at hk
            cases hk
    · rw [if_neg hc] at hg; cases hg
  · cases hg
end
end Go.Dk.Run
namespace Go.Dk.Run
open Go Go.Dk Go.RowKit Go.Proofs Go.Maps Go.Sort
noncomputable section
def keysAre : List Nat → List (AV × AV) → Bool
  | [], [] => true
  | n :: ns, p :: l => (match p.1 with | .int .i64 (.ofNat m) => m == n | _ => false) && keysAre ns l
  | _, _ => false
def keys5 : List Nat := [0, 1, 2, 3, 12]
abbrev iv (n : Nat) : Value := .int .i64 (.ofNat n)
theorem keysAre_eq : ∀ {ns : List Nat} {l : List (AV × AV)}, keysAre ns l = true → l.map (·.1) = ns.map fun n => AV.int .i64 (.ofNat n)
  | [], [], _ => rfl
  | [], _ :: _, h => by cases h
  | _ :: _, [], h => by cases h
  | n :: ns, p :: l, h => by
    unfold keysAre at h
    rw [Bool.and_eq_true] at h
    obtain ⟨h1, h2⟩ := h
    rw [List.map_cons, List.map_cons, keysAre_eq h2]
    congr 1
    split at h1
    · rename_i m e
      rw [e, show m = n by simpa using h1]
    · cases h1
theorem vrs_ints {φ : Emb} : ∀ {ks : List Nat} {vs : List Value}, VRs φ (ks.map fun n => AV.int .i64 (.ofNat n)) vs → vs = ks.map iv
  | [], _, h => by cases h; rfl
  | k :: ks, _, h => by
    cases h with
    | cons _ v _ r h t =>
      cases h
      rw [vrs_ints t]; rfl
/-- The keys of a map's entries, by what stands for them. -/
theorem keys_of {φ : Emb} {ns : List Nat} {l l' : List (AV × AV)} {es : List MapEntry} (hl : l.map (·.1) = ns.map fun n => AV.int .i64 (.ofNat n)) (hp : l'.Perm l) (hv : VRs φ (l'.map (·.1)) (es.map (·.key))) : ∃ ks : List Nat, ks.Perm ns ∧ l'.map (·.1) = (ks.map fun n => AV.int .i64 (.ofNat n)) ∧ es.map (·.key) = ks.map iv := by
  let un : AV → Nat := fun | .int _ (.ofNat n) => n | _ => 0
  have h1 : (l'.map (·.1)).Perm (ns.map fun n => AV.int .i64 (.ofNat n)) := hl ▸ hp.map _
  have h2 : ((l'.map (·.1)).map un).Perm ns := by
    have := h1.map un
    rw [List.map_map (f := fun n => AV.int .i64 (.ofNat n))] at this
    simpa [Function.comp_def, un] using this
  have h3 : l'.map (·.1) = ((l'.map (·.1)).map un).map fun n => AV.int .i64 (.ofNat n) := by
    rw [List.map_map]
    conv => lhs; rw [← List.map_id (l'.map (·.1))]
    refine List.map_congr_left fun x hx => ?_
    obtain ⟨n, _, rfl⟩ := List.mem_map.1 (h1.mem_iff.1 hx)
    rfl
  exact ⟨_, h2, h3, vrs_ints (h3 ▸ hv)⟩
def g44 (args : List AV) (σ : H) : Option (Blk × (Id → AV)) := match args with
  | [.func 55 [] [.ptr b 0]] => (match σ.blk b with
    | some (.cells t _) => (match t.get 0 with
      | some (.map mb) => (match σ.blk mb with
        | some (.map (.prim .i) l) => if keysAre keys5 l then some (cellsB (keys5.map fun n => .int .i64 (.ofNat n)), fun b => .slice b 0 5 1 none) else none
        | _ => none)
      | _ => none)
    | _ => none)
  | _ => none
def R0 (_ : Value) : Option (DataW Unit × List MemPlace) := some (.nil, [])
theorem law44 [Keep] : EntOk Tryz.prog i44 (.law (lawN g44)) := by
  refine ent_new (callsOk (by kernel_rfl)) fun φ σ w args args' x mk hG hH hv hg => ?_
  unfold g44 at hg
  split at hg
  · rename_i b
    split at hg
    · rename_i t m hb
      split at hg
      · rename_i mb ht
        split at hg
        · rename_i l hmb
          by_cases hk : keysAre keys5 l = true
          · rw [if_pos hk] at hg
            cases hg
            cases hv with
            | cons _ u _ r hu tl =>
            cases tl
            cases hu with
            | func _ _ _ xs ys hx hy =>
            cases hx
            cases hy with
            | cons _ u2 _ r2 hu2 tl2 =>
            cases tl2
            cases hu2 with
            | ptr _ _ cb z hφ =>
            obtain ⟨_, uu, hcell, huu⟩ := hH.cell hb ht hφ
            cases huu with
            | map _ cm zm hφm =>
            obtain ⟨c1, z1, h1, h2⟩ := hH.blk mb _ hmb
            rw [hφm] at h1; cases h1
            obtain ⟨es, clock, l', h3, h4, h5, h6, h7, h8, h9⟩ := h2
            obtain ⟨ks, k1, k2, k3⟩ := keys_of (keysAre_eq hk) h4 h5
            have hkn : ks.Nodup := k1.nodup_iff.2 (by decide)
            have hlen : es.size = 5 := by
              have := congrArg List.length k3
              have e2 := k1.length_eq
              simp at this
              rw [this, e2]; rfl
            have hkey : ∀ e ∈ es.toList, ∃ n ∈ ks, e.key = iv n := fun e he => by
              have : e.key ∈ es.toList.map (·.key) := List.mem_map_of_mem he
              rw [k3] at this
              obtain ⟨n, hn, e2⟩ := List.mem_map.1 this
              exact ⟨n, hn, e2.symm⟩
            have hle : ∀ n ∈ ks, n ≤ 12 := fun n hn => by
              have := k1.mem_iff.1 hn
              simp [keys5] at this; omega
            have hko : ∀ n ∈ ks, keyOf Tryz.prog 3 (iv n) = some (.int .i64 (.ofNat n)) := fun n hn => keyOf_int_mk Tryz.underlying3 (by
              have := hle n hn
              have hn : n = 0 ∨ n = 1 ∨ n = 2 ∨ n = 3 ∨ n = 4 ∨ n = 5 ∨ n = 6 ∨ n = 7 ∨ n = 8 ∨ n = 9 ∨ n = 10 ∨ n = 11 ∨ n = 12 := by omega
              rcases hn with rfl | rfl | rfl | rfl | rfl | rfl | rfl | rfl | rfl | rfl | rfl | rfl | rfl <;> rfl)
            have hrd : ∀ e ∈ es.toList, ∃ n ∈ ks, e.key = iv n ∧ WideElems.rd Tryz.prog 3 R0 e = some (.int .i64 (.ofNat n), .nil) := fun e he => by
              obtain ⟨n, hn, e2⟩ := hkey e he
              exact ⟨n, hn, e2, by simp [WideElems.rd, e2, hko n hn, R0]⟩
            have hown : w.ownsMap Tryz.prog 3 R0 cm 5 (.map ((es.toList.map (WideElems.rg Tryz.prog 3 R0)).foldr DataW.insert [])) := by
              refine ⟨es, clock, h3, ⟨by rw [hlen]; decide, ⟨h9.1, h9.2, ?_⟩, fun e he => ?_⟩, by omega, rfl⟩
              · rw [k3]
                exact List.pairwise_map.2 (hkn.imp fun {a b} hne (e : iv a = iv b) => hne (by cases e; rfl))
              · obtain ⟨n, _, _, h⟩ := hrd e he; exact ⟨_, h⟩
            have hik : (intKeys (DataW.map ((es.toList.map (WideElems.rg Tryz.prog 3 R0)).foldr DataW.insert []))).Perm [0, 1, 2, 3, 12] := by
              unfold intKeys
              refine ((WideShapes.sorted_perm _).map _).trans ?_
              rw [List.map_map]
              have : es.toList.map ((fun p => intOf p.1) ∘ WideElems.rg Tryz.prog 3 R0) = (es.toList.map (·.key)).map fun v => match v with | .int _ n => n | _ => 0 := by
                rw [List.map_map]
                refine List.map_congr_left fun e he => ?_
                obtain ⟨n, _, e2, e3⟩ := hrd e he
                simp [WideElems.rg_of e3, e2, intOf]
              rw [this, k3, List.map_map]
              exact k1.map fun n : Nat => (n : Int)
            have hseq := AnyZI.keys_gives (ρ := Tryz.keysA_ren) { Tryz.keysA with } Fence.wide 2 trivial rfl (by omega) cb cm 5 _ w (World.block_lt_of_cell? w _ hcell) hcell hown
            have hsz : Maps.size (DataW.map ((es.toList.map (WideElems.rg Tryz.prog 3 R0)).foldr DataW.insert [])) = 5 := by
              have := hik.length_eq
              unfold intKeys at this
              simpa [Maps.size] using this
            rw [hsz] at hseq
            have cS := AnyZI.sorted_in Tryz.sortedA Fence.wide 5 trivial trivial trivial trivial rfl (by omega) (Tryz.sortsA _) (enters_of Tryz.func54 (by kernel_rfl) rfl) 55 #[.pointer (some ⟨cb, 0, none⟩)] trivial (enters_of Tryz.func55 (by kernel_rfl) rfl) _ 5 (by decide) (by decide) w hseq
            change CallsIn _ _ Tryz.prog 44 _ _ _ at cS
            refine ((callsIn_wide (n := 5)).1 cS).mono ?_
            rintro e w' ⟨v, ss, rfl, hS, hrow, hnil, hB⟩
            have hms : ss.mergeSort (fun x y => decide (x ≤ y)) = [0, 1, 2, 3, 12] := by
              refine List.Perm.eq_of_pairwise (le := fun a b => (decide (a ≤ b)) = true) (fun a b _ _ h1 h2 => by simp at h1 h2; omega) (List.pairwise_mergeSort (fun a b c h1 h2 => by simp at h1 h2 ⊢; omega) (fun a b => by simp; omega) _) (by decide) ((List.mergeSort_perm _ _).trans (hS.trans hik))
            have hl5 : ss.length = 5 := (hS.trans hik).length_eq
            rw [hms, hl5] at hrow
            obtain ⟨_, hrow⟩ := hrow
            rcases hrow with ⟨_, h0⟩ | ⟨g, cap, cur, rfl, hg1, hg2, hg3, hg4, hg5, hg6⟩
            · cases h0
            · have hold : ∀ k, k < w.heap.size → w'.heap[k]? = w.heap[k]? := hB.block
              refine ⟨g, cap, _, rfl, hg1, fun φ' => ⟨cur, _, hg2, by omega, by show 5 ≤ cap; omega, fun k y hy => ?_⟩, fun φ' b2 _ hb2 => .sliceU _ _ _ _ cap g cap hb2 hg3 (by omega), hH.old hold, ⟨hB.os, hB.tape, hB.output, hB.size⟩, fun k hk _ => hold k hk⟩
              replace hy : (T.lay (keys5.map fun n => AV.int .i64 (.ofNat n)) 0 .nil).get k = some y := hy
              have : (T.lay (keys5.map fun n => AV.int .i64 (.ofNat n)) 0 .nil).get k = (keys5.map fun n => AV.int .i64 (.ofNat n))[k]? := by
                rw [T.lay_get]
                by_cases h : k < (keys5.map fun n => AV.int .i64 (.ofNat n)).length
                · rw [if_pos (by omega)]; rfl
                · rw [if_neg (by omega), List.getElem?_eq_none (by omega)]; rfl
              rw [this] at hy
              have hk5 : k < 5 := by have := (List.getElem?_eq_some_iff.1 hy).1; simpa [keys5] using this
              have hc : cur[k]? = ([0, 1, 2, 3, 12].map encZ)[k]? := by
                rw [← hg6, List.getElem?_take_of_lt (by omega)]; simp
              have hk : k = 0 ∨ k = 1 ∨ k = 2 ∨ k = 3 ∨ k = 4 := by omega
              rcases hk with rfl | rfl | rfl | rfl | rfl <;> (cases hy; exact ⟨by decide, rfl, _, hc, .int _ _⟩)
          · rw [if_neg hk] at hg; cases hg
        · cases hg
      · cases hg
    · cases hg
  · cases hg
end
end Go.Dk.Run
namespace Go.Dk.Run
open Go Go.Dk Go.RowKit Go.Proofs
noncomputable section
/-- The cells of pairs. -/
def prs (l : List Nat) : List AV := l.flatMap fun c => [.int .i64 (.ofNat c), .int .i64 (.ofNat 1)]
theorem prs_len (l : List Nat) : (prs l).length = 2 * l.length := by induction l with | nil => rfl | cons c l ih => simp [prs] at ih ⊢; omega
theorem prs_at : ∀ (l : List Nat) (i : Nat) (h : i < l.length), (prs l)[2 * i]? = some (.int .i64 (.ofNat l[i])) ∧ (prs l)[2 * i + 1]? = some (.int .i64 (.ofNat 1))
  | c :: l, 0, _ => ⟨rfl, rfl⟩
  | c :: l, i + 1, h => by
    have := prs_at l i (by simpa using h)
    show ((AV.int .i64 (.ofNat c)) :: (AV.int .i64 (.ofNat 1)) :: prs l)[2 * i + 2]? = _ ∧ ((AV.int .i64 (.ofNat c)) :: (AV.int .i64 (.ofNat 1)) :: prs l)[2 * i + 3]? = _
    exact this
def prT (l : List Nat) : T AV := T.lay (prs l) 0 .nil
theorem prT_take (l : List Nat) (i : Nat) (h : i < l.length) : (prT l).take 2 (0 + i * 2) = some [.int .i64 (.ofNat l[i]), .int .i64 (.ofNat 1)] := by
  obtain ⟨h1, h2⟩ := prs_at l i h
  have g1 : (prT l).get (0 + i * 2) = some (.int .i64 (.ofNat l[i])) := by unfold prT; rw [lay_nil_get, ← h1]; congr 1; omega
  have g2 : (prT l).get (Nat.succ (0 + i * 2)) = some (.int .i64 (.ofNat 1)) := by unfold prT; rw [lay_nil_get, ← h2]; congr 1; omega
  show Option.rec (motive := fun _ => Option (List AV)) none (fun v => Option.rec (motive := fun _ => Option (List AV)) none (fun l => some (v :: l)) (Option.rec (motive := fun _ => Option (List AV)) none (fun v => Option.rec (motive := fun _ => Option (List AV)) none (fun l => some (v :: l)) (some [])) ((prT l).get (Nat.succ (0 + i * 2))))) ((prT l).get (0 + i * 2)) = _
  rw [g1, g2]
def FTb : F3 Ent := set3 i41 e41 (set3 i52 e52 (set3 i42 (.law (lawG g42)) (set3 i45 e45 (set3 i44 (.law (lawN g44)) (rep3 .none)))))
theorem okFTb [Keep] : ∀ k, EntOk Tryz.prog k (get3 k FTb) := ok_set (ok_set (ok_set (ok_set (ok_set ok_nil law44) ok45) law42) ok52) ok41
def bodyOf (e : Ent) : AC := match e with | .code _ b _ => b | _ => .skip
def acL : AC → AC | .seq a _ => a | .block _ a => a | .loop a => a | c => c
def acR : AC → AC | .seq _ b => b | c => c
def b52 : AC := acL (acL (acR (acL (acR (bodyOf e52)))))
structure S52 (len i : Nat) (τ : Fr) : Prop where
  p : get3 ⟨.d0, .d0, .d0⟩ τ = .slice id64 0 len 2 none
  f : get3 ⟨.d0, .d0, .d1⟩ τ = .func 42 [] []
  n : get3 ⟨.d0, .d0, .d7⟩ τ = .int .i64 (.ofNat len)
  i : get3 ⟨.d0, .d1, .d0⟩ τ = .int .i64 (.ofNat i)
theorem set_self (i : I3) (τ : Fr) : set3 i (get3 i τ) τ = τ := by
  obtain ⟨a, b, c⟩ := i
  obtain ⟨⟨⟨_,_,_,_,_,_,_,_⟩,⟨_,_,_,_,_,_,_,_⟩,⟨_,_,_,_,_,_,_,_⟩,⟨_,_,_,_,_,_,_,_⟩,⟨_,_,_,_,_,_,_,_⟩,⟨_,_,_,_,_,_,_,_⟩,⟨_,_,_,_,_,_,_,_⟩,⟨_,_,_,_,_,_,_,_⟩⟩,_,_,_,_,_,_,_⟩ := τ
  cases a <;> cases b <;> cases c <;> rfl
theorem sets_eq : ∀ (regs : List (I3 × AV)) (τ : Fr), (∀ p ∈ regs, get3 p.1 τ = p.2) → sets regs τ = τ
  | [], _, _ => rfl
  | p :: r, τ, h => by
    show set3 p.1 p.2 (sets r τ) = τ
    rw [sets_eq r τ fun q hq => h q (by simp [hq]), ← h p (by simp), set_self]
theorem wrap_nat {n : Nat} (h : n < 2 ^ 63) : IntKind.i64.wrap (Int.ofNat n) = Int.ofNat n := by
  unfold IntKind.wrap
  simp [IntKind.bits, IntKind.signed]
  omega
theorem wrapF_nat {n : Nat} (h : n < 2 ^ 63) : wrapF .i64 (.ofNat n) = .ofNat n := by
  show ite8 (Nat.ble n 127) (Int.ofNat n) (IntKind.i64.wrap (.ofNat n)) = _
  cases Nat.ble n 127 with
  | true => rfl
  | false => exact wrap_nat h
theorem step52 {n : Nat} {l : List Nat} {σ : H} {τ : Fr} {i m : Nat} (hσ : σ.blk id64 = some (.cells (prT l) m)) (hl : ∀ c ∈ l, Cs.contains c = true) (hlen : l.length < 2 ^ 40) (hi : i < l.length) (hS : S52 l.length i τ) :
    Xn (exec FTb (n + 2) b52 τ σ) fun τ' σ' => σ' = σ ∧ S52 l.length (i + 1) τ' := by
  have e := sets_eq [(⟨.d0, .d0, .d0⟩, .slice id64 0 l.length 2 none), (⟨.d0, .d0, .d1⟩, .func 42 [] []), (⟨.d0, .d0, .d7⟩, .int .i64 (.ofNat l.length)), (⟨.d0, .d1, .d0⟩, .int .i64 (.ofNat i))] τ (by
    intro p hp
    simp only [List.mem_cons, List.not_mem_nil, or_false] at hp
    rcases hp with rfl | rfl | rfl | rfl
    · exact hS.p
    · exact hS.f
    · exact hS.n
    · exact hS.i)
  rw [← e]
  generalize τ = τ0
  refine Xn.seq (Xn.ops (Rn.cons rfl (Rn.nil ?_)))
  refine Xn.seq (Xn.condT (show AV.bool (Nat.ble (Nat.succ i) l.length) = _ by rw [ble_lt hi]) (Xn.skip ?_))
  refine Xn.seq (Xn.block (Xn.seq (Xn.ops (Rn.cons rfl (Rn.cons rfl (Rn.nil ?_))))))
  refine Xn.seq (Xn.ops (Rn.cons rfl (Rn.cons rfl (Rn.cons rfl (Rn.cons (step_idxA rfl rfl hi) (Rn.cons (step_loadN rfl hσ (prT_take l i hi)) (Rn.cons (step_call rfl (v := .bool false) (σ1 := σ) ?_) (Rn.nil ?_))))))))
  · show lawG g42 [pairA l[i]] σ = _
    have : g42 [pairA l[i]] σ = some (.bool false) := by show (if Cs.contains l[i] = true then some (AV.bool false) else none) = _; rw [if_pos (hl _ (List.getElem_mem hi))]
    unfold lawG; rw [this]
  refine Xn.condF rfl (Xn.skip ?_)
  refine Xn.ops (Rn.cons rfl (Rn.cons rfl (Rn.nil ?_)))
  exact ⟨rfl, ⟨rfl, rfl, rfl, by show AV.int .i64 (wrapF .i64 (.ofNat (i + 1))) = _; rw [wrapF_nat (by omega)]⟩⟩
theorem loop52 {l : List Nat} {σ : H} {m : Nat} (hσ : σ.blk id64 = some (.cells (prT l) m)) (hl : ∀ c ∈ l, Cs.contains c = true) (hlen : l.length < 2 ^ 40) : ∀ (k : Nat) (n : Nat) (τ : Fr) (i : Nat), i + k = l.length → S52 l.length i τ →
    Xb (exec FTb (n + k + 2) (.loop b52) τ σ) 0 fun _ σ' => σ' = σ := by
  intro k
  induction k with
  | zero =>
    intro n τ i hk hS
    have e := sets_eq [(⟨.d0, .d0, .d7⟩, .int .i64 (.ofNat l.length)), (⟨.d0, .d1, .d0⟩, .int .i64 (.ofNat i))] τ (by
      intro p hp
      simp only [List.mem_cons, List.not_mem_nil, or_false] at hp
      rcases hp with rfl | rfl
      · exact hS.n
      · exact hS.i)
    rw [← e]
    generalize τ = τ0
    refine Xb.loop (Xb.seqN (Xn.ops (Rn.cons rfl (Rn.nil ?_))))
    exact Xb.seqB (Xb.condF (show AV.bool (Nat.ble (Nat.succ i) l.length) = _ by rw [ble_ge (by omega)]) (Xb.exit rfl))
  | succ k ih =>
    intro n τ i hk hS
    refine Xb.again ((step52 (n := n + k + 1) hσ hl hlen (by omega) hS).mono ?_)
    rintro τ1 σ1 ⟨rfl, h2⟩
    exact ih n τ1 (i + 1) (by omega) h2
theorem loop52' {l : List Nat} {σ : H} {m N : Nat} {τ : Fr} (hσ : σ.blk id64 = some (.cells (prT l) m)) (hl : ∀ c ∈ l, Cs.contains c = true) (hlen : l.length < 2 ^ 40) (hN : l.length + 2 ≤ N) (hS : S52 l.length 0 τ) :
    Xb (exec FTb N (.loop b52) τ σ) 0 fun _ σ' => σ' = σ := by
  have := loop52 hσ hl hlen l.length (N - 2 - l.length) τ 0 (by omega) hS
  rwa [show N - 2 - l.length + l.length + 2 = N by omega] at this
/-- ContainsFunc over pairs that may be. -/
theorem run41 {l : List Nat} {σ : H} {m : Nat} (hσ : σ.blk id64 = some (.cells (prT l) m)) (hl : ∀ c ∈ l, Cs.contains c = true) (hlen : l.length < 2 ^ 40) (n : Nat) (hn : l.length < n) :
    callN FTb (n + 5) i41 [.slice id64 0 l.length 2 none, .func 42 [] []] σ = some (.bool false, σ) := by
  refine callN_code (ps := [⟨.d0, .d0, .d0⟩, ⟨.d0, .d0, .d1⟩]) rfl rfl ?_
  refine Xr.seqN (Xn.ops (Rn.cons rfl (Rn.nil ?_)))
  refine Xr.seqN (Xn.ops (Rn.cons rfl (Rn.cons rfl (Rn.cons (step_call (v := .int .i64 (.negSucc 0)) (σ1 := σ) rfl ?_) (Rn.cons rfl (Rn.cons rfl (Rn.nil ?_)))))))
  · refine (callN_code (FT := FTb) (k := i52) (ps := [⟨.d0, .d0, .d0⟩, ⟨.d0, .d0, .d1⟩]) (n := n + 4) rfl rfl ?_ : callN FTb (n + 4) i52 [.slice id64 0 l.length 2 none, .func 42 [] []] σ = _)
    refine Xr.seqN (Xn.ops (Rn.cons rfl (Rn.nil ?_)))
    refine Xr.seqN (Xn.seq (Xn.ops (Rn.cons rfl (Rn.cons rfl (Rn.cons rfl (Rn.nil ?_))))))
    refine Xn.blockB ?_
    refine (loop52' hσ hl hlen (N := n + 4) (by omega) ⟨rfl, rfl, rfl, rfl⟩).mono ?_
    rintro τ2 σ2 rfl
    exact Xr.seqN (Xn.ops (Rn.cons rfl (Rn.nil (Xr.ret rfl))))
  · exact Xr.ret rfl
end
end Go.Dk.Run
namespace Go.Dk.Run
open Go Go.Dk Go.RowKit Go.Proofs
noncomputable section
abbrev ii (n : Nat) : AV := .int .i64 (.ofNat n)
theorem keyEq_ii (a b : Nat) : keyEq (.prim .i) (ii a) (ii b) = some (Nat.beq a b) := rfl
theorem keyEq_self (a : Nat) : keyEq (.prim .i) (ii a) (ii a) = some true := by rw [keyEq_ii, Nat.beq_refl]
theorem beq_ne {a b : Nat} (h : a ≠ b) : Nat.beq a b = false := by cases e : Nat.beq a b with | false => rfl | true => exact absurd (Nat.eq_of_beq_eq_true e) h
theorem keyAt_map (V : Nat → AV) (b : Nat) : ∀ (l : List Nat), keyAt (.prim .i) (ii b) (l.map fun x => (ii x, V x)) = some (if b ∈ l then some (V b) else none)
  | [] => rfl
  | x :: l => by
    show (match keyEq (.prim .i) (ii b) (ii x) with | some true => some (some (V x)) | some false => keyAt (.prim .i) (ii b) (l.map fun x => (ii x, V x)) | none => none) = _
    rw [keyEq_ii]
    by_cases h : b = x
    · subst h; rw [Nat.beq_refl]; simp
    · rw [beq_ne h, keyAt_map V b l]; simp [h]
theorem keyPut_map (V : Nat → AV) (b : Nat) (y : AV) : ∀ (l : List Nat), l.Nodup → b ∈ l → keyPut (.prim .i) (ii b) y (l.map fun x => (ii x, V x)) = l.map fun x => (ii x, if x = b then y else V x)
  | [], _, h => by cases h
  | x :: l, hn, h => by
    show (match keyEq (.prim .i) (ii b) (ii x) with | some true => (ii b, y) :: l.map (fun x => (ii x, V x)) | _ => (ii x, V x) :: keyPut (.prim .i) (ii b) y (l.map fun x => (ii x, V x))) = _
    rw [List.nodup_cons] at hn
    rw [keyEq_ii]
    by_cases e : b = x
    · subst e
      rw [Nat.beq_refl, List.map_cons, if_pos rfl]
      refine congrArg _ (List.map_congr_left fun z hz => ?_)
      rw [if_neg (fun e : z = b => hn.1 (e ▸ hz))]
    · rw [beq_ne e]
      rw [List.map_cons, if_neg (Ne.symm e), keyPut_map V b y l hn.2 (by rcases List.mem_cons.1 h with h | h; exact absurd h e; exact h)]
/-! The sets -/
def seenL (S : List Nat) : List (AV × AV) := S.map fun c => (ii c, .bool true)
theorem seen_at {S : List Nat} {c : Nat} (h : c ∉ S) : keyAt (.prim .i) (ii c) (seenL S) = some none := by
  unfold seenL; rw [keyAt_map (fun _ => .bool true) c S, if_neg h]
theorem seen_put {S : List Nat} {c : Nat} (h : c ∉ S) : keyPut (.prim .i) (ii c) (.bool true) (seenL S) = seenL (S ++ [c]) := by
  haveI : Keep := ⟨fun _ => none⟩
  rw [keyPut_new (seen_at h)]; unfold seenL; rw [List.map_append]; rfl
def row (S : List Nat) (b j : Nat) : AV := .int .i32 (.ofNat (if S.contains (64 * b + j) then 1 else 0))
def rowL (S : List Nat) (b : Nat) : List AV := (List.range' 0 64).map (row S b)
def ord (S : List Nat) : List Nat := S.foldl (fun o c => if o.contains (c / 64) then o else o ++ [c / 64]) []
def ownL (S : List Nat) : List (AV × AV) := (ord S).map fun b => (ii b, .agg (rowL S b))
theorem ord_snoc (S : List Nat) (c : Nat) : ord (S ++ [c]) = if c / 64 ∈ ord S then ord S else ord S ++ [c / 64] := by
  unfold ord; rw [List.foldl_append]
  show (if (List.contains _ (c / 64)) = true then _ else _) = _
  simp only [List.contains_iff_mem]
theorem snoc_ind {p : List Nat → Prop} (h0 : p []) (h1 : ∀ S c, p S → p (S ++ [c])) (S : List Nat) : p S := by
  have : ∀ n (S : List Nat), S.length = n → p S := by
    intro n
    induction n with
    | zero => intro S h; rw [List.length_eq_zero_iff.1 h]; exact h0
    | succ n ih =>
      intro S h
      have hne : S ≠ [] := fun e => by rw [e] at h; cases h
      rw [← List.dropLast_concat_getLast hne]
      exact h1 _ _ (ih _ (by simp [h]))
  exact this _ S rfl
theorem ord_nodup (S : List Nat) : (ord S).Nodup := by
  refine snoc_ind (p := fun S => (ord S).Nodup) (by simp [ord]) (fun S c h => ?_) S
  rw [ord_snoc]
  by_cases e : c / 64 ∈ ord S
  · rw [if_pos e]; exact h
  · rw [if_neg e, List.nodup_append]
    exact ⟨h, by simp, fun a ha b hb => by simp at hb; subst hb; exact fun e1 => e (e1 ▸ ha)⟩
theorem ord_mem (S : List Nat) : ∀ b, b ∈ ord S ↔ ∃ c ∈ S, c / 64 = b := by
  refine snoc_ind (p := fun S => ∀ b, b ∈ ord S ↔ ∃ c ∈ S, c / 64 = b) (by simp [ord]) (fun S c h b => ?_) S
  rw [ord_snoc]
  by_cases e : c / 64 ∈ ord S
  · rw [if_pos e, h]
    constructor
    · rintro ⟨x, h1, h2⟩; exact ⟨x, by simp [h1], h2⟩
    · rintro ⟨x, h1, h2⟩
      simp at h1
      rcases h1 with h1 | rfl
      · exact ⟨x, h1, h2⟩
      · rw [h2] at e; exact (h b).1 e
  · rw [if_neg e, List.mem_append, h]
    constructor
    · rintro (⟨x, h1, h2⟩ | h1)
      · exact ⟨x, by simp [h1], h2⟩
      · simp at h1; exact ⟨c, by simp, h1.symm⟩
    · rintro ⟨x, h1, h2⟩
      simp at h1
      rcases h1 with h1 | rfl
      · exact .inl ⟨x, h1, h2⟩
      · exact .inr (by simp [h2])
def zero64 : AV := .agg (List.replicate 64 (.int .i32 (.ofNat 0)))
theorem row_zero {S : List Nat} {b : Nat} (h : b ∉ ord S) : AV.agg (rowL S b) = zero64 := by
  have : rowL S b = (List.range' 0 64).map fun _ => AV.int .i32 (.ofNat 0) := by
    refine List.map_congr_left fun j hj => ?_
    simp [List.mem_range'] at hj
    unfold row
    rw [if_neg]
    intro hc
    refine h ((ord_mem S b).2 ⟨64 * b + j, by simpa using hc, by omega⟩)
  rw [this]; rfl
theorem own_at (S : List Nat) (b : Nat) : ∃ r, keyAt (.prim .i) (ii b) (ownL S) = some r ∧ lookV zero64 false r = .agg (rowL S b) := by
  refine ⟨_, keyAt_map (fun b => .agg (rowL S b)) b (ord S), ?_⟩
  by_cases h : b ∈ ord S
  · rw [if_pos h]; rfl
  · rw [if_neg h]; exact (row_zero h).symm
theorem rowL_len (S : List Nat) (b : Nat) : (rowL S b).length = 64 := by simp [rowL]
theorem rowL_get {S : List Nat} {b j : Nat} (h : j < 64) : (rowL S b)[j]? = some (row S b j) := by
  unfold rowL; rw [List.getElem?_map, List.getElem?_range' (by omega)]; simp
theorem row_other {S : List Nat} {c b : Nat} (h : c / 64 ≠ b) : rowL (S ++ [c]) b = rowL S b := by
  refine List.map_congr_left fun j hj => ?_
  simp [List.mem_range'] at hj
  unfold row
  have : ((S ++ [c]).contains (64 * b + j)) = S.contains (64 * b + j) := by
    rw [Bool.eq_iff_iff]; simp only [List.contains_iff_mem, List.mem_append, List.mem_singleton]
    constructor
    · rintro (h1 | h1)
      · exact h1
      · omega
    · exact fun h1 => .inl h1
  rw [this]
theorem row_same {S : List Nat} {c : Nat} : rowL (S ++ [c]) (c / 64) = (List.range' 0 64).map fun j => if j = c % 64 then .int .i32 (.ofNat 1) else row S (c / 64) j := by
  refine List.map_congr_left fun j hj => ?_
  simp [List.mem_range'] at hj
  unfold row
  by_cases e : j = c % 64
  · rw [if_pos e, if_pos (by simp only [List.contains_iff_mem, List.mem_append, List.mem_singleton]; right; omega)]
  · rw [if_neg e]
    have : ((S ++ [c]).contains (64 * (c / 64) + j)) = S.contains (64 * (c / 64) + j) := by
      rw [Bool.eq_iff_iff]; simp only [List.contains_iff_mem, List.mem_append, List.mem_singleton]
      constructor
      · rintro (h1 | h1)
        · exact h1
        · omega
      · exact fun h1 => .inl h1
    rw [this]
theorem own_put (S : List Nat) (c : Nat) : keyPut (.prim .i) (ii (c / 64)) (.agg (rowL (S ++ [c]) (c / 64))) (ownL S) = ownL (S ++ [c]) := by
  by_cases h : c / 64 ∈ ord S
  · unfold ownL
    rw [keyPut_map (fun b => .agg (rowL S b)) (c / 64) _ (ord S) (ord_nodup S) h, ord_snoc, if_pos h]
    refine List.map_congr_left fun b hb => ?_
    by_cases e : b = c / 64
    · rw [if_pos e, e]
    · rw [if_neg e, row_other (Ne.symm e)]
  · have hnone : keyAt (.prim .i) (ii (c / 64)) (ownL S) = some none := by unfold ownL; rw [keyAt_map (fun b => .agg (rowL S b)) (c / 64) (ord S), if_neg h]
    haveI : Keep := ⟨fun _ => none⟩
    rw [keyPut_new hnone]
    unfold ownL
    rw [ord_snoc, if_neg h, List.map_append]
    congr 1
    refine List.map_congr_left fun b hb => ?_
    rw [row_other (fun e => h (e ▸ hb))]
end
end Go.Dk.Run
namespace Go.Dk.Run
open Go Go.Dk Go.RowKit Go.Proofs
noncomputable section
abbrev id65 : Id := ⟨.d0, .d0, .d1, .d0, .d1⟩
abbrev id66 : Id := ⟨.d0, .d0, .d1, .d0, .d2⟩
abbrev id67 : Id := ⟨.d0, .d0, .d1, .d0, .d3⟩
def σ29 (l S : List Nat) : H := ⟨id67, set5 id66 (some (.map (.prim .i) (ownL S))) (set5 id65 (some (.map (.prim .i) (seenL S))) (set5 id64 (some (.cells (prT l) (2 * l.length))) (rep5 none)))⟩
def regs29 (l S : List Nat) : List (I3 × AV) := [(⟨.d0, .d0, .d4⟩, .map id65), (⟨.d0, .d0, .d5⟩, .map id66), (⟨.d0, .d2, .d3⟩, .slice id64 0 l.length 2 none), (⟨.d0, .d2, .d4⟩, ii l.length), (⟨.d0, .d2, .d5⟩, ii S.length)]
def b29 : AC := acL (acL (acR (acL (acR (acR (acR (acR (bodyOf e29))))))))
structure S29 (l S : List Nat) (τ : Fr) (σ : H) : Prop where
  r4 : get3 ⟨.d0, .d0, .d4⟩ τ = .map id65
  r5 : get3 ⟨.d0, .d0, .d5⟩ τ = .map id66
  r19 : get3 ⟨.d0, .d2, .d3⟩ τ = .slice id64 0 l.length 2 none
  r20 : get3 ⟨.d0, .d2, .d4⟩ τ = ii l.length
  r21 : get3 ⟨.d0, .d2, .d5⟩ τ = ii S.length
  b64 : σ.blk id64 = some (.cells (prT l) (2 * l.length))
  b65 : σ.blk id65 = some (.map (.prim .i) (seenL S))
  b66 : σ.blk id66 = some (.map (.prim .i) (ownL S))
theorem quo64 {τ : Fr} {σ : H} {base : Id} {x : AX} {c : Nat} (hx : ev τ x = ii c) (hc : c < 2 ^ 63) : hBin .quo x (.c (.int .i64 (.ofNat 64))) base τ σ = .ok (ii (c / 64)) σ := by
  unfold hBin
  rw [hx]
  show OR.ok (AV.int .i64 (wrapF .i64 (.ofNat (c / 64)))) σ = _
  rw [wrapF_nat (by omega)]
theorem step_quo {cf : I3 → List AV → H → Option (AV × H)} {τ : Fr} {σ : H} {base : Id} {d : Option I3} {x : AX} {c : Nat} (hx : ev τ x = ii c) (hc : c < 2 ^ 63) : AR.step cf ⟨d, none, .bin .quo x (.c (.int .i64 (.ofNat 64)))⟩ base τ σ = some (ii (c / 64), σ) := step_ok (quo64 (base := base) hx hc)
theorem step29 {FT : F3 Ent} {l S : List Nat} {c n : Nat} {τ0 : Fr} (hi : S.length < l.length) (hc : l[S.length] = c) (hS : c ∉ S) (hlen : l.length < 2 ^ 40) (hc63 : c < 2 ^ 63) :
    Xn (exec FT (n + 1) b29 (sets (regs29 l S) τ0) (σ29 l S)) fun τ' σ' => S29 l (S ++ [c]) τ' σ' := by
  obtain ⟨r, hr1, hr2⟩ := own_at S (c / 64)
  have hmod : c % 64 < 64 := Nat.mod_lt _ (by decide)
  refine Xn.seq (Xn.ops (Rn.cons rfl (Rn.nil ?_)))
  refine Xn.seq (Xn.condT (show AV.bool (Nat.ble (Nat.succ S.length) l.length) = _ by rw [ble_lt hi]) (Xn.skip ?_))
  refine Xn.seq (Xn.block ?_)
  · refine Xn.seq (Xn.ops (Rn.cons (step_idxA rfl rfl hi) (Rn.cons (v := pairA c) (step_loadN rfl rfl (by rw [← hc]; exact prT_take l S.length hi)) (Rn.cons rfl (Rn.cons rfl (Rn.nil ?_))))))
    refine Xn.seq (Xn.seq (Xn.ops (Rn.cons rfl (Rn.cons rfl (Rn.cons rfl (Rn.cons (step_look (keyEq_self c) rfl rfl (seen_at hS)) (Rn.nil ?_)))))))
    refine Xn.condF rfl (Xn.skip ?_)
    refine Xn.seq (Xn.ops (Rn.cons rfl (Rn.cons rfl (Rn.cons rfl (Rn.cons (step_upd (keyEq_self c) rfl rfl (seen_at hS)) (Rn.nil ?_))))))
    refine Xn.seq (Xn.ops (Rn.cons rfl (Rn.cons rfl (Rn.cons rfl (Rn.cons (step_quo rfl hc63) (Rn.cons (v := .agg (rowL S (c / 64))) ((step_look (keyEq_self (c / 64)) rfl rfl hr1).trans (by rw [← hr2]; rfl)) (Rn.cons rfl (Rn.cons (step_store rfl rfl (rowL_len S (c / 64)) rfl (over_some _ _ _ ?_)) (Rn.nil ?_)))))))))
    · intro j _ hj
      rw [rowL_len] at hj
      show ((T.lay (List.replicate 64 (AV.int .i32 (.ofNat 0))) 0 .nil).get j).isSome = true
      rw [lay_nil_get, List.getElem?_replicate, if_pos (by omega)]; rfl
    have hget : ∀ j, j < 64 → (T.lay (rowL S (c / 64)) 0 (T.lay (List.replicate 64 (AV.int .i32 (.ofNat 0))) 0 .nil)).get j = some (row S (c / 64) j) := fun j hj => by
      rw [T.lay_get, if_pos ⟨Nat.zero_le _, by rw [rowL_len]; omega⟩]; exact rowL_get hj
    refine Xn.seq (Xn.ops (Rn.cons rfl (Rn.cons rfl (Rn.cons rfl (Rn.cons rfl (Rn.cons rfl (Rn.cons rfl (Rn.cons (step_idxAA rfl rfl hmod) (Rn.cons (step_store (l := [.int .i32 (.ofNat 1)]) rfl rfl rfl rfl (over_some _ _ _ ?_)) (Rn.nil ?_))))))))))
    · intro j h1 h2
      have : j < 64 := by simp at h2; omega
      refine Eq.trans (congrArg Option.isSome (hget j this)) rfl
    refine Xn.ops (Rn.cons rfl (Rn.cons rfl (Rn.cons rfl (Rn.cons (step_quo rfl hc63) (Rn.cons (v := .agg (rowL (S ++ [c]) (c / 64))) (step_loadN rfl rfl ?_) (Rn.cons (step_upd (keyEq_self (c / 64)) rfl rfl hr1) (Rn.nil ?_)))))))
    · rw [row_same]
      refine take_some _ 64 0 fun j _ hj => ?_
      show (T.lay [AV.int .i32 (.ofNat 1)] (0 + c % 64 * 1) (T.lay (rowL S (c / 64)) 0 (T.lay (List.replicate 64 (AV.int .i32 (.ofNat 0))) 0 .nil))).get j = _
      rw [T.lay_get]
      by_cases e : j = c % 64
      · rw [if_pos (by simp; omega), if_pos e, show j - (0 + c % 64 * 1) = 0 by omega]; rfl
      · rw [if_neg (by simp; omega), if_neg e]; exact hget j (by omega)
    refine Xn.ops (Rn.cons rfl (Rn.cons rfl (Rn.nil ?_)))
    refine ⟨rfl, rfl, rfl, rfl, ?_, rfl, ?_, ?_⟩
    · show AV.int .i64 (wrapF .i64 (.ofNat (S.length + 1))) = _
      rw [wrapF_nat (by omega)]; simp
    · show some (Blk.map (.prim .i) (keyPut (.prim .i) (ii c) (.bool true) (seenL S))) = _
      rw [seen_put hS]
    · show some (Blk.map (.prim .i) (keyPut (.prim .i) (ii (c / 64)) (.agg (rowL (S ++ [c]) (c / 64))) (ownL S))) = _
      rw [own_put]
end
end Go.Dk.Run
namespace Go.Dk.Run
open Go Go.Dk Go.RowKit Go.Proofs
noncomputable section
def R29 : AC := acR (acR (acR (acR (acR (bodyOf e29)))))
def A29 : AC := bodyOf e29
def ownK : List (AV × AV) := keys5.map fun b => (ii b, .agg (rowL Cs b))
def σK (l : List Nat) : H := ⟨id66, set5 id65 (some (.map (.prim .i) ownK)) (set5 id64 (some (.cells (prT l) (2 * l.length))) (rep5 none))⟩
def τK (τ0 : Fr) : Fr := set3 ⟨.d0, .d0, .d5⟩ (.map id65) τ0
/-- What is looked at at the end. -/
def fin29 (x : X) : Option (AV × AV × Option Blk × Bool) :=
  match x with
  | .ret τ σ => (match get3 ⟨.d0, .d0, .d2⟩ τ with
    | .ptr b 0 => (match σ.blk b with | some (.cells _ _) => some (.ptr b 0, get3 ⟨.d0, .d0, .d3⟩ τ, σ.blk id64, decide (b = id64)) | _ => none)
    | _ => none)
  | _ => none
theorem run29 (l : List Nat) (τ0 : Fr) : ∃ b, fin29 (exec FTb 60 R29 (τK τ0) (σK l)) = some (.ptr b 0, .int .i64 (.ofNat 0), some (.cells (prT l) (2 * l.length)), false) := by
  refine ⟨⟨.d0, .d0, .d1, .d0, .d3⟩, ?_⟩
  kernel_rfl
/-- All pairs in a row of cells. -/
def decode : List AV → Option (List Nat)
  | [] => some []
  | .int .i64 (.ofNat c) :: .int .i64 (.ofNat 1) :: r => (decode r).map (c :: ·)
  | _ => none
theorem decode_prs : ∀ l : List Nat, decode (prs l) = some l
  | [] => rfl
  | c :: l => by
    show (decode (prs l)).map (c :: ·) = _
    rw [decode_prs l]; rfl
theorem prs_decode : ∀ (n : Nat) (cells : List AV) (l : List Nat), cells.length ≤ n → decode cells = some l → cells = prs l
  | 0, cells, l, hn, h => by
    have : cells = [] := List.length_eq_zero_iff.1 (by omega)
    subst this; cases h; rfl
  | n + 1, cells, l, hn, h => by
    unfold decode at h
    split at h
    · cases h; rfl
    · rename_i c r
      obtain ⟨l2, h1, rfl⟩ := Option.map_eq_some_iff.1 h
      rw [prs_decode n r l2 (by simp at hn; omega) h1]; rfl
    · cases h
def g29 (args : List AV) (σ : H) : Option (Blk × (Id → AV)) := match args with
  | [.slice b 0 n 2 none] => (match σ.blk b with
    | some (.cells t m) => if m = 2 * n then (match t.take (2 * n) 0 with
      | some cells => (match decode cells with
        | some l => if l.isPerm Cs then some (.cells .nil 0, fun b => .tup [.ptr b 0, .int .i64 (.ofNat 0)]) else none
        | none => none)
      | none => none) else none
    | _ => none)
  | _ => none
theorem bodyOf_eq : e29 = .code [⟨.d0, .d0, .d0⟩] (bodyOf e29) [.tmp ⟨.d0, .d0, .d2⟩, .tmp ⟨.d0, .d0, .d3⟩] := rfl
theorem ent29 : entOf Tryz.prog 29 = some e29 := by kernel_rfl
theorem Cs_lt : ∀ c ∈ Cs, c < 2 ^ 63 := by
  have : (Cs.all fun c => decide (c < 2 ^ 63)) = true := by kernel_rfl
  intro c hc; simpa using List.all_eq_true.1 this c hc
theorem Cs_nodup : Cs.Nodup := of_decide_eq_true (by kernel_rfl)
section
variable {N : Nat} {w : World} {pins : List (Id × Nat × Nat)} {Q : Exit → Act → World → Prop}
theorem prT_free (l : List Nat) (k : Nat) (x : AV) (h : (prT l).get k = some x) : Free x := by
  unfold prT at h; rw [lay_nil_get] at h
  have := List.mem_of_getElem? h
  unfold prs at this
  obtain ⟨c, _, hc⟩ := List.mem_flatMap.1 this
  simp at hc
  rcases hc with rfl | rfl <;> exact Free.int _ _
theorem seenL_free (S : List Nat) : ∀ p ∈ seenL S, Free p.1 ∧ Free p.2 := fun p hp => by
  obtain ⟨c, _, rfl⟩ := List.mem_map.1 hp; exact ⟨Free.int _ _, Free.bool _⟩
theorem rowL_free (S : List Nat) (b : Nat) : Free (.agg (rowL S b)) := Free.agg fun x hx => by
  obtain ⟨j, _, rfl⟩ := List.mem_map.1 hx; exact Free.int _ _
theorem ownL_free (S : List Nat) : ∀ p ∈ ownL S, Free p.1 ∧ Free p.2 := fun p hp => by
  obtain ⟨c, _, rfl⟩ := List.mem_map.1 hp; exact ⟨Free.int _ _, rowL_free _ _⟩
theorem σ29_blk {l S : List Nat} {b : Id} {x : Blk} (h : (σ29 l S).blk b = some x) : (b = id66 ∧ x = .map (.prim .i) (ownL S)) ∨ (b = id65 ∧ x = .map (.prim .i) (seenL S)) ∨ (b = id64 ∧ x = .cells (prT l) (2 * l.length)) := by
  replace h : get5 b (set5 id66 (some (.map (.prim .i) (ownL S))) (set5 id65 (some (.map (.prim .i) (seenL S))) (set5 id64 (some (.cells (prT l) (2 * l.length))) (rep5 none)))) = some x := h
  rw [get_set5, get_set5, get_set5, get_rep5] at h
  by_cases e1 : id66 = b
  · rw [if_pos e1] at h; cases h; exact .inl ⟨e1.symm, rfl⟩
  · rw [if_neg e1] at h
    by_cases e2 : id65 = b
    · rw [if_pos e2] at h; cases h; exact .inr (.inl ⟨e2.symm, rfl⟩)
    · rw [if_neg e2] at h
      by_cases e3 : id64 = b
      · rw [if_pos e3] at h; cases h; exact .inr (.inr ⟨e3.symm, rfl⟩)
      · rw [if_neg e3] at h; cases h
def r29 : List (Id × Id) := [(id64, id64), (id65, id65), (id66, id66)]
theorem re29 [Keep] {l S : List Nat} {τ : Fr} {σ : H} {R : Act → World → Prop} (hpin : ∀ p ∈ pins, p.1 = id64) (h : S29 l S τ σ) (k : ∀ τ0, SQ N w pins (sets (regs29 l S) τ0) (σ29 l S) R) : SQ N w pins τ σ R := by
  refine SQ.re r29 pins (σ29 l S) (regs29 l S) (by kernel_rfl) (fun p hp => ⟨id64, by rw [hpin p hp]; rfl, by rw [← hpin p hp]; exact hp⟩) (fun b x hb => ?_) (fun p hp φ v hv => ?_) k
  · rcases σ29_blk hb with ⟨rfl, rfl⟩ | ⟨rfl, rfl⟩ | ⟨rfl, rfl⟩
    · exact ⟨id66, _, rfl, h.b66, fun φ w c z hbr => hbr.freeMap (ownL_free S)⟩
    · exact ⟨id65, _, rfl, h.b65, fun φ w c z hbr => hbr.freeMap (seenL_free S)⟩
    · exact ⟨id64, _, rfl, h.b64, fun φ w c z hbr => hbr.freeCells (prT_free l)⟩
  · simp only [regs29, List.mem_cons, List.not_mem_nil, or_false] at hp
    rcases hp with rfl | rfl | rfl | rfl | rfl
    · rw [show get3 _ τ = _ from h.r4] at hv; exact hv.renMap rfl
    · rw [show get3 _ τ = _ from h.r5] at hv; exact hv.renMap rfl
    · rw [show get3 _ τ = _ from h.r19] at hv; exact hv.renSlice rfl
    · rw [show get3 _ τ = _ from h.r20] at hv; exact Free.int _ _ _ _ _ hv
    · rw [show get3 _ τ = _ from h.r21] at hv; exact Free.int _ _ _ _ _ hv
theorem end29 {FT : F3 Ent} {l : List Nat} {n : Nat} {τ0 : Fr} : Xb (exec FT (n + 1) b29 (sets (regs29 l l) τ0) (σ29 l l)) 0 fun τ' σ' => S29 l l τ' σ' := by
  refine Xb.seqN (Xn.ops (Rn.cons rfl (Rn.nil ?_)))
  exact Xb.seqB (Xb.condF (show AV.bool (Nat.ble (Nat.succ l.length) l.length) = _ by rw [ble_ge (Nat.le_refl _)]) (Xb.exit ⟨rfl, rfl, rfl, rfl, rfl, rfl, rfl, rfl⟩))
/-- The first loop, from whatever has been done. -/
theorem loop29 [Keep] {l : List Nat} (hl : l.Perm Cs) (hlen : l.length < 2 ^ 40) (hpin : ∀ p ∈ pins, p.1 = id64) (hend : ∀ τ0, SQ N w pins (sets (regs29 l l) τ0) (σ29 l l) (Q (.exit 0))) : ∀ (k : Nat) (S R : List Nat), l = S ++ R → R.length = k → ∀ τ0, LpA Tryz.prog N w pins b29 Q (sets (regs29 l S) τ0) (σ29 l S) := by
  have hnd : l.Nodup := hl.nodup_iff.2 Cs_nodup
  intro k
  induction k with
  | zero =>
    intro S R e hR τ0
    have : R = [] := List.length_eq_zero_iff.1 hR
    subst this
    rw [List.append_nil] at e
    subst e
    exact LpA.step fun c hc => WpA.execB mixed okFTb (n := 6) end29 fun τ1 σ1 h1 => re29 hpin h1 hend
  | succ k ih =>
    intro S R e hR τ0
    cases R with
    | nil => cases hR
    | cons c R =>
      have hi : S.length < l.length := by rw [e]; simp
      have hc : l[S.length] = c := by simp [e]
      have hS : c ∉ S := by
        rw [e, List.nodup_append] at hnd
        exact fun h => hnd.2.2 c h c (by simp) rfl
      have hcs : c < 2 ^ 63 := Cs_lt c (hl.mem_iff.1 (by rw [e]; simp))
      refine LpA.step fun cd hcd => WpA.execN mixed okFTb (n := 6) (step29 hi hc hS hlen hcs) fun τ1 σ1 h1 => re29 hpin h1 fun τ2 => ?_
      exact ih (S ++ [c]) R (by rw [e]; simp) (by simpa using hR) τ2 cd hcd
end
end
end Go.Dk.Run
namespace Go.Dk.Run
open Go Go.Dk Go.RowKit Go.Proofs
noncomputable section
theorem rowL_perm {S S' : List Nat} (h : S.Perm S') (b : Nat) : rowL S b = rowL S' b := by
  refine List.map_congr_left fun j _ => ?_
  unfold row; rw [h.contains_eq]
theorem ord_perm {S S' : List Nat} (h : S.Perm S') : (ord S).Perm (ord S') := by
  refine (List.perm_ext_iff_of_nodup (ord_nodup S) (ord_nodup S')).2 fun b => ?_
  rw [ord_mem, ord_mem]
  exact ⟨fun ⟨c, h1, h2⟩ => ⟨c, h.mem_iff.1 h1, h2⟩, fun ⟨c, h1, h2⟩ => ⟨c, h.mem_iff.2 h1, h2⟩⟩
theorem ordCs : (ord Cs).isPerm keys5 = true := by kernel_rfl
theorem own_perm {l : List Nat} (h : l.Perm Cs) : (ownL l).Perm ownK := by
  have h1 : ownL l = (ord l).map fun b => (ii b, .agg (rowL Cs b)) := by
    refine List.map_congr_left fun b _ => ?_
    rw [rowL_perm h]
  rw [h1]
  exact ((ord_perm h).trans (List.isPerm_iff.1 ordCs)).map _
theorem ownK_free : ∀ p ∈ ownK, Free p.1 ∧ Free p.2 := fun p hp => by
  obtain ⟨c, _, rfl⟩ := List.mem_map.1 hp; exact ⟨Free.int _ _, rowL_free _ _⟩
theorem σK_blk {l : List Nat} {b : Id} {x : Blk} (h : (σK l).blk b = some x) : (b = id65 ∧ x = .map (.prim .i) ownK) ∨ (b = id64 ∧ x = .cells (prT l) (2 * l.length)) := by
  replace h : get5 b (set5 id65 (some (.map (.prim .i) ownK)) (set5 id64 (some (.cells (prT l) (2 * l.length))) (rep5 none))) = some x := h
  rw [get_set5, get_set5, get_rep5] at h
  by_cases e2 : id65 = b
  · rw [if_pos e2] at h; cases h; exact .inl ⟨e2.symm, rfl⟩
  · rw [if_neg e2] at h
    by_cases e3 : id64 = b
    · rw [if_pos e3] at h; cases h; exact .inr ⟨e3.symm, rfl⟩
    · rw [if_neg e3] at h; cases h
theorem fin29_inv {x : X} {v1 v2 : AV} {ob : Option Blk} (h : fin29 x = some (v1, v2, ob, false)) : ∃ τ σ b t m, x = .ret τ σ ∧ get3 ⟨.d0, .d0, .d2⟩ τ = .ptr b 0 ∧ σ.blk b = some (.cells t m) ∧ get3 ⟨.d0, .d0, .d3⟩ τ = v2 ∧ σ.blk id64 = ob ∧ b ≠ id64 := by
  unfold fin29 at h
  split at h
  · rename_i τ σ
    split at h
    · rename_i b hb
      split at h
      · rename_i t m hbl
        injection h with h
        injection h with h1 h2
        injection h2 with h2 h3
        injection h3 with h3 h4
        exact ⟨τ, σ, b, t, m, rfl, hb, hbl, h2, h3, of_decide_eq_false h4⟩
      · cases h
    · cases h
  · cases h
section
variable {N : Nat} {w : World} {pins : List (Id × Nat × Nat)} {Q : Exit → Act → World → Prop}
def σ29a (l : List Nat) : H := ⟨id65, set5 id64 (some (.cells (prT l) (2 * l.length))) (rep5 none)⟩
def σ29b (l : List Nat) : H := ⟨id66, set5 id65 (some (.map (.prim .i) [])) (set5 id64 (some (.cells (prT l) (2 * l.length))) (rep5 none))⟩
theorem walk29 [Keep] {l : List Nat} (hl : l.Perm Cs) (hpin : ∀ p ∈ pins, p.1 = id64) (τ0 : Fr)
    (hend : ∀ τ σ b t m, get3 ⟨.d0, .d0, .d2⟩ τ = .ptr b 0 → σ.blk b = some (.cells t m) → get3 ⟨.d0, .d0, .d3⟩ τ = .int .i64 (.ofNat 0) → σ.blk id64 = some (.cells (prT l) (2 * l.length)) → b ≠ id64 → SQ N w pins τ σ (Q .ret)) :
    WpA Tryz.prog N w pins (bodyOf e29) Q (set3 ⟨.d0, .d0, .d0⟩ (.slice id64 0 l.length 2 none) τ0) (σ29a l) := by
  have hlen : l.length < 2 ^ 40 := by rw [hl.length_eq]; decide
  have hmem : ∀ c ∈ l, Cs.contains c = true := fun c hc => by simpa using hl.mem_iff.1 hc
  refine WpA.seqX mixed okFTb (n := 6) (R := fun τ σ => get3 ⟨.d0, .d0, .d0⟩ τ = .slice id64 0 l.length 2 none ∧ σ = σ29a l) (Xn.ops (Rn.cons rfl (Rn.cons rfl (Rn.nil ⟨rfl, rfl⟩)))) ?_
  rintro τ1 _ ⟨h1, rfl⟩
  refine WpA.seqX mixed okFTb (n := l.length + 10) (R := fun τ σ => get3 ⟨.d0, .d0, .d0⟩ τ = .slice id64 0 l.length 2 none ∧ σ = σ29a l) ?_ ?_
  · rw [← set_self ⟨.d0, .d0, .d0⟩ τ1, h1]
    refine Xn.seq (Xn.ops (Rn.cons rfl (Rn.cons (step_call (v := .bool false) (σ1 := σ29a l) rfl (run41 (m := 2 * l.length) rfl hmem hlen (l.length + 4) (by omega))) (Rn.nil ?_))))
    exact Xn.condF rfl (Xn.skip ⟨rfl, rfl⟩)
  rintro τ2 _ ⟨h2, rfl⟩
  refine WpA.seqX mixed okFTb (n := 6) (R := fun τ σ => get3 ⟨.d0, .d0, .d0⟩ τ = .slice id64 0 l.length 2 none ∧ get3 ⟨.d0, .d0, .d4⟩ τ = .map id65 ∧ σ = σ29b l) ?_ ?_
  · rw [← set_self ⟨.d0, .d0, .d0⟩ τ2, h2]
    exact Xn.ops (Rn.cons rfl (Rn.cons rfl (Rn.nil ⟨rfl, rfl, rfl⟩)))
  rintro τ3 _ ⟨h3, h3b, rfl⟩
  refine WpA.seqX mixed okFTb (n := 6) (R := fun τ σ => get3 ⟨.d0, .d0, .d0⟩ τ = .slice id64 0 l.length 2 none ∧ get3 ⟨.d0, .d0, .d4⟩ τ = .map id65 ∧ get3 ⟨.d0, .d0, .d5⟩ τ = .map id66 ∧ σ = σ29 l []) ?_ ?_
  · rw [← sets_eq [(⟨.d0, .d0, .d0⟩, .slice id64 0 l.length 2 none), (⟨.d0, .d0, .d4⟩, .map id65)] τ3 (by simp [h3, h3b])]
    exact Xn.ops (Rn.cons rfl (Rn.cons rfl (Rn.nil ⟨rfl, rfl, rfl, rfl⟩)))
  rintro τ4 _ ⟨h4, h4b, h4c, rfl⟩
  refine WpA.seq fun c2 hc2 => WpA.seqX mixed okFTb (n := 6) (R := fun τ σ => S29 l [] τ σ) ?_ ?_
  · rw [← sets_eq [(⟨.d0, .d0, .d0⟩, .slice id64 0 l.length 2 none), (⟨.d0, .d0, .d4⟩, .map id65), (⟨.d0, .d0, .d5⟩, .map id66)] τ4 (by simp [h4, h4b, h4c])]
    exact Xn.ops (Rn.cons rfl (Rn.cons rfl (Rn.cons rfl (Rn.nil ⟨rfl, rfl, rfl, rfl, rfl, rfl, rfl, rfl⟩))))
  intro τ5 σ5 h5
  refine WpA.block (WpA.loop fun c hc => re29 hpin h5 fun τ6 => loop29 hl hlen hpin (fun τ7 => ?_) l.length [] l rfl rfl τ6 c hc)
  refine (show SQ N w pins (sets (regs29 l l) τ7) (σ29 l l) (Exit.inBlock 0 (Exit.then (c2.wp Tryz.prog Q) Q) (.exit 0)) from ?_)
  rw [show Exit.inBlock 0 (Exit.then (c2.wp Tryz.prog Q) Q) (.exit 0) = c2.wp Tryz.prog Q from rfl]
  refine SQ.re [(id64, id64), (id65, id66)] pins (σK l) [(⟨.d0, .d0, .d5⟩, .map id65)] (by kernel_rfl) (fun p hp => ⟨id64, by rw [hpin p hp]; rfl, by rw [← hpin p hp]; exact hp⟩) (fun b x hb => ?_) (fun p hp φ v hv => ?_) fun τ8 => ?_
  · rcases σK_blk hb with ⟨rfl, rfl⟩ | ⟨rfl, rfl⟩
    · exact ⟨id66, _, rfl, rfl, fun φ w c z hbr => (hbr.permMap (own_perm hl)).freeMap ownK_free⟩
    · exact ⟨id64, _, rfl, rfl, fun φ w c z hbr => hbr.freeCells (prT_free l)⟩
  · simp only [List.mem_cons, List.not_mem_nil, or_false] at hp
    subst hp
    exact VR.renMap (b0 := id66) hv rfl
  · obtain ⟨b1, hrun⟩ := run29 l τ8
    obtain ⟨τ9, σ9, b, t, m, e1, e2, e3, e4, e5, e6⟩ := fin29_inv hrun
    exact (WpA.exec mixed okFTb 60 (ac := R29) (τ := τK τ8) (σ := σK l) (by rw [e1]; exact hend τ9 σ9 b t m e2 e3 e4 e5 e6) : WpA Tryz.prog N w pins R29 Q (τK τ8) (σK l)) c2 hc2
end
theorem resX_two (i j : I3) (τ : Fr) (σ : H) : resX [.tmp i, .tmp j] τ σ = some (.tup [get3 i τ, get3 j τ], σ) := rfl
theorem law29 [K0 : Keep] : EntOk Tryz.prog i29 (.law (lawN g29)) := by
  refine ent_new (callsOk (by kernel_rfl)) fun φ σ w args args' x mk hG hH hv hg => ?_
  unfold g29 at hg
  split at hg
  · rename_i b n
    split at hg
    · rename_i t m hb
      by_cases hm : m = 2 * n
      · rw [if_pos hm] at hg
        split at hg
        · rename_i cells hcells
          split at hg
          · rename_i l hdec
            by_cases hp : l.isPerm Cs = true
            · rw [if_pos hp] at hg
              cases hg
              have hl : l.Perm Cs := List.isPerm_iff.1 hp
              have hpr := prs_decode _ _ _ (Nat.le_refl _) hdec
              obtain ⟨hlen1, hget⟩ := T.take_eq t _ _ _ hcells
              have hn : n = l.length := by rw [hpr, prs_len] at hlen1; omega
              subst hn
              cases hv with
              | cons _ u _ r hu tl =>
              cases tl
              cases hu with
              | sliceU _ _ _ _ cap pc z hφ hcap hz =>
              have same : ∀ k, k < 2 * l.length → t.get k = (prT l).get k := fun k hk => by
                have := hget k hk
                rw [Nat.zero_add] at this
                rw [this, hpr]; unfold prT; rw [lay_nil_get]
              have hbr : ∀ φ' w', BR φ (.cells t m) pc z w' → BR φ' (.cells (prT l) (2 * l.length)) pc z w' := fun φ' w' h => by
                obtain ⟨cur, e, h1, h2, h3, h4⟩ := h
                refine ⟨cur, e, h1, h2, by omega, fun k y hk => ?_⟩
                have hk2 : k < 2 * l.length := by
                  unfold prT at hk; rw [lay_nil_get] at hk
                  have := (List.getElem?_eq_some_iff.1 hk).1
                  rwa [prs_len] at this
                obtain ⟨g1, g2, v, g3, g4⟩ := h4 k y ((same k hk2).trans hk)
                exact ⟨hk2, g2, v, g3, prT_free l k y hk _ _ _ g4⟩
              have hbr2 : ∀ φ' w', BR φ (.cells t m) pc z w → BR φ' (.cells (prT l) (2 * l.length)) pc z w' → BR φ (.cells t m) pc z w' := fun φ' w' h0 h => by
                obtain ⟨cur0, e0, _, _, _, h04⟩ := h0
                obtain ⟨cur, e, h1, h2, h3, h4⟩ := h
                refine ⟨cur, e, h1, h2, by omega, fun k y hk => ?_⟩
                have hk2 : k < 2 * l.length := by have := (h04 k y hk).1; omega
                have hk3 := (same k hk2).symm.trans hk
                obtain ⟨g1, g2, v, g3, g4⟩ := h4 k y hk3
                exact ⟨by omega, g2, v, g3, prT_free l k y hk3 _ _ _ g4⟩
              have hB0 : BR φ (.cells t m) pc z w := by
                obtain ⟨c1, z1, h1, h2⟩ := hH.blk b _ hb
                rw [hφ] at h1; cases h1; exact h2
              have hH1 := HR.only (w := w) hH hb hφ (fun φ' h => hbr φ' w h)
              have hG1 : GOk (ren [(id64, b)] φ) := ren_GOk hG
              have hv1 : VRs (ren [(id64, b)] φ) [.slice id64 0 l.length 2 none] [.slice (some ⟨pc, 0, none⟩) l.length cap] := .cons _ _ _ _ (.sliceU _ _ _ _ _ _ _ (show ren [(id64, b)] φ id64 = some (pc, z) from hφ) hcap hz) .nil
              refine @calls_walk Tryz.prog [(id64, pc, z)] _ (σ29a l) (kw w (some pc) []) 29 _ _ _ (ent29.trans (congrArg some bodyOf_eq)) (ren [(id64, b)] φ) w [.slice id64 0 l.length 2 none] _ _ rfl hG1 hH1 hv1 (fun p hp => by simp at hp; subst hp; exact hφ) fun N Q hQ => ?_
              refine @walk29 N w _ Q (kw w (some pc) []) l hl (fun p hp => by simp at hp; subst hp; rfl) emptyF fun τ σ' bb t' m' q1 q2 q3 q4 q5 => ?_
              refine hQ (kw w (some pc) []) _ τ σ' (.tup [.ptr bb 0, .int .i64 (.ofNat 0)]) (by rw [resX_two, q1, q3]) fun φ' w' v' r1 r2 r3 r4 => ?_
              have r5 : φ' id64 = some (pc, z) := r4 _ (List.mem_singleton.2 rfl)
              cases r1 with
              | tup _ l' hh =>
              cases hh with
              | cons _ v1 _ r1 hv1 tl1 =>
              cases tl1 with
              | cons _ v2 _ r2 hv2 tl2 =>
              cases tl2
              cases hv2
              cases hv1 with
              | ptr _ _ c1 z1 hφ1 =>
              have hge : w.heap.size ≤ c1 := kw1_lt r2 q2 hφ1 q4 r5 q5
              obtain ⟨c2, z2, s1, s2⟩ := @HR.blk (kw w (some pc) []) _ _ _ r2 bb _ q2
              rw [hφ1] at s1; cases s1
              obtain ⟨cur, e, s3, s4, s5, s6⟩ := s2
              obtain ⟨c3, z3, s7, s8⟩ := @HR.blk (kw w (some pc) []) _ _ _ r2 id64 _ q4
              rw [r5] at s7; cases s7
              refine ⟨c1, z1, _, rfl, hge, fun φ2 => ⟨cur, e, s3, s4, Nat.zero_le _, fun k y hk => by cases hk⟩, fun φ2 b2 _ hb2 => .tup _ [_, _] (.cons _ _ _ _ (.ptr _ _ _ _ hb2) (.cons _ _ _ _ (.int _ _) .nil)), ?_, r3, fun k hk hno => kw1_kept r2 hk fun e => hno b _ pc z hb hφ e.symm⟩
              exact HR.back hH hb hφ (hbr2 _ _ hB0 s8) fun k hk hne => kw1_kept r2 hk hne
            · rw [if_neg hp] at hg; cases hg
          · cases hg
        · cases hg
      · rw [if_neg hm] at hg; cases hg
    · cases hg
  · cases hg
end
end Go.Dk.Run
