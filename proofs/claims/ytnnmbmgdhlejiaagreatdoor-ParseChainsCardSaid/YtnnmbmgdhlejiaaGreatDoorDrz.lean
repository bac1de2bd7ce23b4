/-
  ParseChains: its row and its card.
-/
import Derived.Test.YtnnmbmgdhlejiaaGreatDoorDra
import Derived.Test.YtnnmbmgdhlejiaaGreatDoorDrb
import Derived.Test.YtnnmbmgdhlejiaaGreatDoorDrc
import Derived.Test.YtnnmbmgdhlejiaaGreatDoorDrd
import Derived.Test.YtnnmbmgdhlejiaaGreatDoorDre
import Derived.Test.YtnnmbmgdhlejiaaGreatDoorDrf
import Derived.Test.YtnnmbmgdhlejiaaGreatDoorDrg
import Derived.Test.YtnnmbmgdhlejiaaGreatDoorDrh
import Derived.Test.YtnnmbmgdhlejiaaGreatDoorDri
import Derived.Test.YtnnmbmgdhlejiaaGreatDoorDrj
import Derived.Test.YtnnmbmgdhlejiaaGreatDoorDrk
import Derived.Test.YtnnmbmgdhlejiaaGreatDoorDrl
import Derived.Test.YtnnmbmgdhlejiaaGreatDoorDrm
import Derived.Test.YtnnmbmgdhlejiaaGreatDoorDrn
import Derived.Test.YtnnmbmgdhlejiaaGreatDoorDro
import Derived.Test.YtnnmbmgdhlejiaaGreatDoorDrp
import Derived.Test.YtnnmbmgdhlejiaaGreatDoorCards
import Derived.Test.YtnnmbmgdhlejiaaGreatDoorTie
import Derived.WalkKit
import Derived.ProofKit
import Derived.OpenShut
import Derived.ChangeOld
import Derived.Below
import Derived.SizedLaws
import Derived.Deep.DeepHandedRow
import Derived.Lay
import Derived.Lib.LaidU8
import Derived.LaidLaws
import Derived.MakeChecks
import Derived.Shelf.Vars
set_option maxRecDepth 100000
set_option linter.all false
namespace Go.Dk.Run
theorem chain0x0 : ∀ n, n < 8 → chainOk 0 0 n = true
  | 0, _ => r0x0n0
  | 1, _ => r0x0n1
  | 2, _ => r0x0n2
  | 3, _ => r0x0n3
  | 4, _ => r0x0n4
  | 5, _ => r0x0n5
  | 6, _ => r0x0n6
  | 7, _ => r0x0n7
  | n + 8, h => absurd h (by omega)
theorem chain0x1 : ∀ n, n < 8 → chainOk 0 1 n = true
  | 0, _ => r0x1n0
  | 1, _ => r0x1n1
  | 2, _ => r0x1n2
  | 3, _ => r0x1n3
  | 4, _ => r0x1n4
  | 5, _ => r0x1n5
  | 6, _ => r0x1n6
  | 7, _ => r0x1n7
  | n + 8, h => absurd h (by omega)
theorem chain0x2 : ∀ n, n < 8 → chainOk 0 2 n = true
  | 0, _ => r0x2n0
  | 1, _ => r0x2n1
  | 2, _ => r0x2n2
  | 3, _ => r0x2n3
  | 4, _ => r0x2n4
  | 5, _ => r0x2n5
  | 6, _ => r0x2n6
  | 7, _ => r0x2n7
  | n + 8, h => absurd h (by omega)
theorem chain0x3 : ∀ n, n < 8 → chainOk 0 3 n = true
  | 0, _ => r0x3n0
  | 1, _ => r0x3n1
  | 2, _ => r0x3n2
  | 3, _ => r0x3n3
  | 4, _ => r0x3n4
  | 5, _ => r0x3n5
  | 6, _ => r0x3n6
  | 7, _ => r0x3n7
  | n + 8, h => absurd h (by omega)
theorem chain0x4 : ∀ n, n < 8 → chainOk 0 4 n = true
  | 0, _ => r0x4n0
  | 1, _ => r0x4n1
  | 2, _ => r0x4n2
  | 3, _ => r0x4n3
  | 4, _ => r0x4n4
  | 5, _ => r0x4n5
  | 6, _ => r0x4n6
  | 7, _ => r0x4n7
  | n + 8, h => absurd h (by omega)
theorem chain0x5 : ∀ n, n < 8 → chainOk 0 5 n = true
  | 0, _ => r0x5n0
  | 1, _ => r0x5n1
  | 2, _ => r0x5n2
  | 3, _ => r0x5n3
  | 4, _ => r0x5n4
  | 5, _ => r0x5n5
  | 6, _ => r0x5n6
  | 7, _ => r0x5n7
  | n + 8, h => absurd h (by omega)
theorem chain0x6 : ∀ n, n < 8 → chainOk 0 6 n = true
  | 0, _ => r0x6n0
  | 1, _ => r0x6n1
  | 2, _ => r0x6n2
  | 3, _ => r0x6n3
  | 4, _ => r0x6n4
  | 5, _ => r0x6n5
  | 6, _ => r0x6n6
  | 7, _ => r0x6n7
  | n + 8, h => absurd h (by omega)
theorem chain0 : ∀ b, b < 7 → ∀ n, n < 8 → chainOk 0 b n = true
  | 0, _ => chain0x0
  | 1, _ => chain0x1
  | 2, _ => chain0x2
  | 3, _ => chain0x3
  | 4, _ => chain0x4
  | 5, _ => chain0x5
  | 6, _ => chain0x6
  | b + 7, h => absurd h (by omega)
theorem chain1x0 : ∀ n, n < 8 → chainOk 1 0 n = true
  | 0, _ => r1x0n0
  | 1, _ => r1x0n1
  | 2, _ => r1x0n2
  | 3, _ => r1x0n3
  | 4, _ => r1x0n4
  | 5, _ => r1x0n5
  | 6, _ => r1x0n6
  | 7, _ => r1x0n7
  | n + 8, h => absurd h (by omega)
theorem chain1x1 : ∀ n, n < 8 → chainOk 1 1 n = true
  | 0, _ => r1x1n0
  | 1, _ => r1x1n1
  | 2, _ => r1x1n2
  | 3, _ => r1x1n3
  | 4, _ => r1x1n4
  | 5, _ => r1x1n5
  | 6, _ => r1x1n6
  | 7, _ => r1x1n7
  | n + 8, h => absurd h (by omega)
theorem chain1x2 : ∀ n, n < 8 → chainOk 1 2 n = true
  | 0, _ => r1x2n0
  | 1, _ => r1x2n1
  | 2, _ => r1x2n2
  | 3, _ => r1x2n3
  | 4, _ => r1x2n4
  | 5, _ => r1x2n5
  | 6, _ => r1x2n6
  | 7, _ => r1x2n7
  | n + 8, h => absurd h (by omega)
theorem chain1x3 : ∀ n, n < 8 → chainOk 1 3 n = true
  | 0, _ => r1x3n0
  | 1, _ => r1x3n1
  | 2, _ => r1x3n2
  | 3, _ => r1x3n3
  | 4, _ => r1x3n4
  | 5, _ => r1x3n5
  | 6, _ => r1x3n6
  | 7, _ => r1x3n7
  | n + 8, h => absurd h (by omega)
theorem chain1x4 : ∀ n, n < 8 → chainOk 1 4 n = true
  | 0, _ => r1x4n0
  | 1, _ => r1x4n1
  | 2, _ => r1x4n2
  | 3, _ => r1x4n3
  | 4, _ => r1x4n4
  | 5, _ => r1x4n5
  | 6, _ => r1x4n6
  | 7, _ => r1x4n7
  | n + 8, h => absurd h (by omega)
theorem chain1x5 : ∀ n, n < 8 → chainOk 1 5 n = true
  | 0, _ => r1x5n0
  | 1, _ => r1x5n1
  | 2, _ => r1x5n2
  | 3, _ => r1x5n3
  | 4, _ => r1x5n4
  | 5, _ => r1x5n5
  | 6, _ => r1x5n6
  | 7, _ => r1x5n7
  | n + 8, h => absurd h (by omega)
theorem chain1x6 : ∀ n, n < 8 → chainOk 1 6 n = true
  | 0, _ => r1x6n0
  | 1, _ => r1x6n1
  | 2, _ => r1x6n2
  | 3, _ => r1x6n3
  | 4, _ => r1x6n4
  | 5, _ => r1x6n5
  | 6, _ => r1x6n6
  | 7, _ => r1x6n7
  | n + 8, h => absurd h (by omega)
theorem chain1 : ∀ b, b < 7 → ∀ n, n < 8 → chainOk 1 b n = true
  | 0, _ => chain1x0
  | 1, _ => chain1x1
  | 2, _ => chain1x2
  | 3, _ => chain1x3
  | 4, _ => chain1x4
  | 5, _ => chain1x5
  | 6, _ => chain1x6
  | b + 7, h => absurd h (by omega)
theorem chain2x0 : ∀ n, n < 8 → chainOk 2 0 n = true
  | 0, _ => r2x0n0
  | 1, _ => r2x0n1
  | 2, _ => r2x0n2
  | 3, _ => r2x0n3
  | 4, _ => r2x0n4
  | 5, _ => r2x0n5
  | 6, _ => r2x0n6
  | 7, _ => r2x0n7
  | n + 8, h => absurd h (by omega)
theorem chain2x1 : ∀ n, n < 8 → chainOk 2 1 n = true
  | 0, _ => r2x1n0
  | 1, _ => r2x1n1
  | 2, _ => r2x1n2
  | 3, _ => r2x1n3
  | 4, _ => r2x1n4
  | 5, _ => r2x1n5
  | 6, _ => r2x1n6
  | 7, _ => r2x1n7
  | n + 8, h => absurd h (by omega)
theorem chain2x2 : ∀ n, n < 8 → chainOk 2 2 n = true
  | 0, _ => r2x2n0
  | 1, _ => r2x2n1
  | 2, _ => r2x2n2
  | 3, _ => r2x2n3
  | 4, _ => r2x2n4
  | 5, _ => r2x2n5
  | 6, _ => r2x2n6
  | 7, _ => r2x2n7
  | n + 8, h => absurd h (by omega)
theorem chain2x3 : ∀ n, n < 8 → chainOk 2 3 n = true
  | 0, _ => r2x3n0
  | 1, _ => r2x3n1
  | 2, _ => r2x3n2
  | 3, _ => r2x3n3
  | 4, _ => r2x3n4
  | 5, _ => r2x3n5
  | 6, _ => r2x3n6
  | 7, _ => r2x3n7
  | n + 8, h => absurd h (by omega)
theorem chain2x4 : ∀ n, n < 8 → chainOk 2 4 n = true
  | 0, _ => r2x4n0
  | 1, _ => r2x4n1
  | 2, _ => r2x4n2
  | 3, _ => r2x4n3
  | 4, _ => r2x4n4
  | 5, _ => r2x4n5
  | 6, _ => r2x4n6
  | 7, _ => r2x4n7
  | n + 8, h => absurd h (by omega)
theorem chain2x5 : ∀ n, n < 8 → chainOk 2 5 n = true
  | 0, _ => r2x5n0
  | 1, _ => r2x5n1
  | 2, _ => r2x5n2
  | 3, _ => r2x5n3
  | 4, _ => r2x5n4
  | 5, _ => r2x5n5
  | 6, _ => r2x5n6
  | 7, _ => r2x5n7
  | n + 8, h => absurd h (by omega)
theorem chain2x6 : ∀ n, n < 8 → chainOk 2 6 n = true
  | 0, _ => r2x6n0
  | 1, _ => r2x6n1
  | 2, _ => r2x6n2
  | 3, _ => r2x6n3
  | 4, _ => r2x6n4
  | 5, _ => r2x6n5
  | 6, _ => r2x6n6
  | 7, _ => r2x6n7
  | n + 8, h => absurd h (by omega)
theorem chain2 : ∀ b, b < 7 → ∀ n, n < 8 → chainOk 2 b n = true
  | 0, _ => chain2x0
  | 1, _ => chain2x1
  | 2, _ => chain2x2
  | 3, _ => chain2x3
  | 4, _ => chain2x4
  | 5, _ => chain2x5
  | 6, _ => chain2x6
  | b + 7, h => absurd h (by omega)
theorem chain3x0 : ∀ n, n < 8 → chainOk 3 0 n = true
  | 0, _ => r3x0n0
  | 1, _ => r3x0n1
  | 2, _ => r3x0n2
  | 3, _ => r3x0n3
  | 4, _ => r3x0n4
  | 5, _ => r3x0n5
  | 6, _ => r3x0n6
  | 7, _ => r3x0n7
  | n + 8, h => absurd h (by omega)
theorem chain3x1 : ∀ n, n < 8 → chainOk 3 1 n = true
  | 0, _ => r3x1n0
  | 1, _ => r3x1n1
  | 2, _ => r3x1n2
  | 3, _ => r3x1n3
  | 4, _ => r3x1n4
  | 5, _ => r3x1n5
  | 6, _ => r3x1n6
  | 7, _ => r3x1n7
  | n + 8, h => absurd h (by omega)
theorem chain3x2 : ∀ n, n < 8 → chainOk 3 2 n = true
  | 0, _ => r3x2n0
  | 1, _ => r3x2n1
  | 2, _ => r3x2n2
  | 3, _ => r3x2n3
  | 4, _ => r3x2n4
  | 5, _ => r3x2n5
  | 6, _ => r3x2n6
  | 7, _ => r3x2n7
  | n + 8, h => absurd h (by omega)
theorem chain3x3 : ∀ n, n < 8 → chainOk 3 3 n = true
  | 0, _ => r3x3n0
  | 1, _ => r3x3n1
  | 2, _ => r3x3n2
  | 3, _ => r3x3n3
  | 4, _ => r3x3n4
  | 5, _ => r3x3n5
  | 6, _ => r3x3n6
  | 7, _ => r3x3n7
  | n + 8, h => absurd h (by omega)
theorem chain3x4 : ∀ n, n < 8 → chainOk 3 4 n = true
  | 0, _ => r3x4n0
  | 1, _ => r3x4n1
  | 2, _ => r3x4n2
  | 3, _ => r3x4n3
  | 4, _ => r3x4n4
  | 5, _ => r3x4n5
  | 6, _ => r3x4n6
  | 7, _ => r3x4n7
  | n + 8, h => absurd h (by omega)
theorem chain3x5 : ∀ n, n < 8 → chainOk 3 5 n = true
  | 0, _ => r3x5n0
  | 1, _ => r3x5n1
  | 2, _ => r3x5n2
  | 3, _ => r3x5n3
  | 4, _ => r3x5n4
  | 5, _ => r3x5n5
  | 6, _ => r3x5n6
  | 7, _ => r3x5n7
  | n + 8, h => absurd h (by omega)
theorem chain3x6 : ∀ n, n < 8 → chainOk 3 6 n = true
  | 0, _ => r3x6n0
  | 1, _ => r3x6n1
  | 2, _ => r3x6n2
  | 3, _ => r3x6n3
  | 4, _ => r3x6n4
  | 5, _ => r3x6n5
  | 6, _ => r3x6n6
  | 7, _ => r3x6n7
  | n + 8, h => absurd h (by omega)
theorem chain3 : ∀ b, b < 7 → ∀ n, n < 8 → chainOk 3 b n = true
  | 0, _ => chain3x0
  | 1, _ => chain3x1
  | 2, _ => chain3x2
  | 3, _ => chain3x3
  | 4, _ => chain3x4
  | 5, _ => chain3x5
  | 6, _ => chain3x6
  | b + 7, h => absurd h (by omega)
theorem chain4x0 : ∀ n, n < 8 → chainOk 4 0 n = true
  | 0, _ => r4x0n0
  | 1, _ => r4x0n1
  | 2, _ => r4x0n2
  | 3, _ => r4x0n3
  | 4, _ => r4x0n4
  | 5, _ => r4x0n5
  | 6, _ => r4x0n6
  | 7, _ => r4x0n7
  | n + 8, h => absurd h (by omega)
theorem chain4x1 : ∀ n, n < 8 → chainOk 4 1 n = true
  | 0, _ => r4x1n0
  | 1, _ => r4x1n1
  | 2, _ => r4x1n2
  | 3, _ => r4x1n3
  | 4, _ => r4x1n4
  | 5, _ => r4x1n5
  | 6, _ => r4x1n6
  | 7, _ => r4x1n7
  | n + 8, h => absurd h (by omega)
theorem chain4x2 : ∀ n, n < 8 → chainOk 4 2 n = true
  | 0, _ => r4x2n0
  | 1, _ => r4x2n1
  | 2, _ => r4x2n2
  | 3, _ => r4x2n3
  | 4, _ => r4x2n4
  | 5, _ => r4x2n5
  | 6, _ => r4x2n6
  | 7, _ => r4x2n7
  | n + 8, h => absurd h (by omega)
theorem chain4x3 : ∀ n, n < 8 → chainOk 4 3 n = true
  | 0, _ => r4x3n0
  | 1, _ => r4x3n1
  | 2, _ => r4x3n2
  | 3, _ => r4x3n3
  | 4, _ => r4x3n4
  | 5, _ => r4x3n5
  | 6, _ => r4x3n6
  | 7, _ => r4x3n7
  | n + 8, h => absurd h (by omega)
theorem chain4x4 : ∀ n, n < 8 → chainOk 4 4 n = true
  | 0, _ => r4x4n0
  | 1, _ => r4x4n1
  | 2, _ => r4x4n2
  | 3, _ => r4x4n3
  | 4, _ => r4x4n4
  | 5, _ => r4x4n5
  | 6, _ => r4x4n6
  | 7, _ => r4x4n7
  | n + 8, h => absurd h (by omega)
theorem chain4x5 : ∀ n, n < 8 → chainOk 4 5 n = true
  | 0, _ => r4x5n0
  | 1, _ => r4x5n1
  | 2, _ => r4x5n2
  | 3, _ => r4x5n3
  | 4, _ => r4x5n4
  | 5, _ => r4x5n5
  | 6, _ => r4x5n6
  | 7, _ => r4x5n7
  | n + 8, h => absurd h (by omega)
theorem chain4x6 : ∀ n, n < 8 → chainOk 4 6 n = true
  | 0, _ => r4x6n0
  | 1, _ => r4x6n1
  | 2, _ => r4x6n2
  | 3, _ => r4x6n3
  | 4, _ => r4x6n4
  | 5, _ => r4x6n5
  | 6, _ => r4x6n6
  | 7, _ => r4x6n7
  | n + 8, h => absurd h (by omega)
theorem chain4 : ∀ b, b < 7 → ∀ n, n < 8 → chainOk 4 b n = true
  | 0, _ => chain4x0
  | 1, _ => chain4x1
  | 2, _ => chain4x2
  | 3, _ => chain4x3
  | 4, _ => chain4x4
  | 5, _ => chain4x5
  | 6, _ => chain4x6
  | b + 7, h => absurd h (by omega)
theorem chain5x0 : ∀ n, n < 8 → chainOk 5 0 n = true
  | 0, _ => r5x0n0
  | 1, _ => r5x0n1
  | 2, _ => r5x0n2
  | 3, _ => r5x0n3
  | 4, _ => r5x0n4
  | 5, _ => r5x0n5
  | 6, _ => r5x0n6
  | 7, _ => r5x0n7
  | n + 8, h => absurd h (by omega)
theorem chain5x1 : ∀ n, n < 8 → chainOk 5 1 n = true
  | 0, _ => r5x1n0
  | 1, _ => r5x1n1
  | 2, _ => r5x1n2
  | 3, _ => r5x1n3
  | 4, _ => r5x1n4
  | 5, _ => r5x1n5
  | 6, _ => r5x1n6
  | 7, _ => r5x1n7
  | n + 8, h => absurd h (by omega)
theorem chain5x2 : ∀ n, n < 8 → chainOk 5 2 n = true
  | 0, _ => r5x2n0
  | 1, _ => r5x2n1
  | 2, _ => r5x2n2
  | 3, _ => r5x2n3
  | 4, _ => r5x2n4
  | 5, _ => r5x2n5
  | 6, _ => r5x2n6
  | 7, _ => r5x2n7
  | n + 8, h => absurd h (by omega)
theorem chain5x3 : ∀ n, n < 8 → chainOk 5 3 n = true
  | 0, _ => r5x3n0
  | 1, _ => r5x3n1
  | 2, _ => r5x3n2
  | 3, _ => r5x3n3
  | 4, _ => r5x3n4
  | 5, _ => r5x3n5
  | 6, _ => r5x3n6
  | 7, _ => r5x3n7
  | n + 8, h => absurd h (by omega)
theorem chain5x4 : ∀ n, n < 8 → chainOk 5 4 n = true
  | 0, _ => r5x4n0
  | 1, _ => r5x4n1
  | 2, _ => r5x4n2
  | 3, _ => r5x4n3
  | 4, _ => r5x4n4
  | 5, _ => r5x4n5
  | 6, _ => r5x4n6
  | 7, _ => r5x4n7
  | n + 8, h => absurd h (by omega)
theorem chain5x5 : ∀ n, n < 8 → chainOk 5 5 n = true
  | 0, _ => r5x5n0
  | 1, _ => r5x5n1
  | 2, _ => r5x5n2
  | 3, _ => r5x5n3
  | 4, _ => r5x5n4
  | 5, _ => r5x5n5
  | 6, _ => r5x5n6
  | 7, _ => r5x5n7
  | n + 8, h => absurd h (by omega)
theorem chain5x6 : ∀ n, n < 8 → chainOk 5 6 n = true
  | 0, _ => r5x6n0
  | 1, _ => r5x6n1
  | 2, _ => r5x6n2
  | 3, _ => r5x6n3
  | 4, _ => r5x6n4
  | 5, _ => r5x6n5
  | 6, _ => r5x6n6
  | 7, _ => r5x6n7
  | n + 8, h => absurd h (by omega)
theorem chain5 : ∀ b, b < 7 → ∀ n, n < 8 → chainOk 5 b n = true
  | 0, _ => chain5x0
  | 1, _ => chain5x1
  | 2, _ => chain5x2
  | 3, _ => chain5x3
  | 4, _ => chain5x4
  | 5, _ => chain5x5
  | 6, _ => chain5x6
  | b + 7, h => absurd h (by omega)
theorem chain6x0 : ∀ n, n < 8 → chainOk 6 0 n = true
  | 0, _ => r6x0n0
  | 1, _ => r6x0n1
  | 2, _ => r6x0n2
  | 3, _ => r6x0n3
  | 4, _ => r6x0n4
  | 5, _ => r6x0n5
  | 6, _ => r6x0n6
  | 7, _ => r6x0n7
  | n + 8, h => absurd h (by omega)
theorem chain6x1 : ∀ n, n < 8 → chainOk 6 1 n = true
  | 0, _ => r6x1n0
  | 1, _ => r6x1n1
  | 2, _ => r6x1n2
  | 3, _ => r6x1n3
  | 4, _ => r6x1n4
  | 5, _ => r6x1n5
  | 6, _ => r6x1n6
  | 7, _ => r6x1n7
  | n + 8, h => absurd h (by omega)
theorem chain6x2 : ∀ n, n < 8 → chainOk 6 2 n = true
  | 0, _ => r6x2n0
  | 1, _ => r6x2n1
  | 2, _ => r6x2n2
  | 3, _ => r6x2n3
  | 4, _ => r6x2n4
  | 5, _ => r6x2n5
  | 6, _ => r6x2n6
  | 7, _ => r6x2n7
  | n + 8, h => absurd h (by omega)
theorem chain6x3 : ∀ n, n < 8 → chainOk 6 3 n = true
  | 0, _ => r6x3n0
  | 1, _ => r6x3n1
  | 2, _ => r6x3n2
  | 3, _ => r6x3n3
  | 4, _ => r6x3n4
  | 5, _ => r6x3n5
  | 6, _ => r6x3n6
  | 7, _ => r6x3n7
  | n + 8, h => absurd h (by omega)
theorem chain6x4 : ∀ n, n < 8 → chainOk 6 4 n = true
  | 0, _ => r6x4n0
  | 1, _ => r6x4n1
  | 2, _ => r6x4n2
  | 3, _ => r6x4n3
  | 4, _ => r6x4n4
  | 5, _ => r6x4n5
  | 6, _ => r6x4n6
  | 7, _ => r6x4n7
  | n + 8, h => absurd h (by omega)
theorem chain6x5 : ∀ n, n < 8 → chainOk 6 5 n = true
  | 0, _ => r6x5n0
  | 1, _ => r6x5n1
  | 2, _ => r6x5n2
  | 3, _ => r6x5n3
  | 4, _ => r6x5n4
  | 5, _ => r6x5n5
  | 6, _ => r6x5n6
  | 7, _ => r6x5n7
  | n + 8, h => absurd h (by omega)
theorem chain6x6 : ∀ n, n < 8 → chainOk 6 6 n = true
  | 0, _ => r6x6n0
  | 1, _ => r6x6n1
  | 2, _ => r6x6n2
  | 3, _ => r6x6n3
  | 4, _ => r6x6n4
  | 5, _ => r6x6n5
  | 6, _ => r6x6n6
  | 7, _ => r6x6n7
  | n + 8, h => absurd h (by omega)
theorem chain6 : ∀ b, b < 7 → ∀ n, n < 8 → chainOk 6 b n = true
  | 0, _ => chain6x0
  | 1, _ => chain6x1
  | 2, _ => chain6x2
  | 3, _ => chain6x3
  | 4, _ => chain6x4
  | 5, _ => chain6x5
  | 6, _ => chain6x6
  | b + 7, h => absurd h (by omega)
theorem chain_all : ∀ a, a < 7 → ∀ b, b < 7 → ∀ n, n < 8 → chainOk a b n = true
  | 0, _ => chain0
  | 1, _ => chain1
  | 2, _ => chain2
  | 3, _ => chain3
  | 4, _ => chain4
  | 5, _ => chain5
  | 6, _ => chain6
  | a + 7, h => absurd h (by omega)
end Go.Dk.Run
namespace Go.Proofs.YtnnmbmgdhlejiaaGreatDoor.parseChains
open Go.ChangeShapes Go.WideShapes Go.ChangeAt Go.RowKit
theorem calls (W : World) (m : Int) (hm : W.cell? ⟨0, 0, none⟩ = some (.int .i64 m)) (a b n : Int) : Calls Tryz.prog 4 #[.int .i64 a, .int .i64 b, .int .i64 n] W fun e w' => e = .returned (.bool true) ∧ Below W.heap.size W w' := by
  letI : Dk.Keep := ⟨fun k => if k = 0 then W.heap[0]? else none⟩
  have hkeep : ∀ (k : Nat) (o : Obj), Dk.Keep.at' k = some o → W.heap[k]? = some o := fun k o h => by
    change (if k = 0 then W.heap[0]? else none) = some o at h
    by_cases e : k = 0
    · rw [if_pos e] at h; rw [e]; exact h
    · rw [if_neg e] at h; cases h
  have hk : Dk.Run.Kp := by
    cases ho : W.heap[0]? with
    | none => simp [World.cell?, ho] at hm
    | some o =>
      refine ⟨m, o, ho, fun w hw => ?_⟩
      simp only [World.cell?, ho] at hm
      simp only [World.cell?, hw]
      exact hm
  obtain ⟨r1, h1, e1⟩ := Dk.Run.pend_and (n := a) (m := 7) (by omega) (by omega)
  obtain ⟨r2, h2, e2⟩ := Dk.Run.pend_and (n := b) (m := 7) (by omega) (by omega)
  obtain ⟨r3, h3, e3⟩ := Dk.Run.pend_and7 n
  exact Dk.Run.true_of_run (k := ⟨.d0, .d0, .d4⟩) Dk.Run.mixed (Dk.Run.okFA hk) hkeep (.cons _ _ _ _ (.pend _ _ _ _ e1 (by simp)) (.cons _ _ _ _ (.pend _ _ _ _ e2 (by simp)) (.cons _ _ _ _ (.pend _ _ _ _ e3 (by simp)) .nil))) (Dk.Run.chain_all r1 h1 r2 h2 r3 h3)
theorem own : ownKnob Tryz.prog.godebug = none := by kernel_rfl
theorem laidOut : laidOutB Tryz.prog = true := by kernel_rfl
theorem laid_met (os : Os) : laidMet Tryz.prog Rows.parseChainsRow.laid ((World.laidAll Tryz.prog os Rows.parseChainsRow.laid).forCall (fun _ _ => 0) ⟨#[], #[.int .i64 0, .int .i64 0, .int .i64 0], []⟩).memory :=
  laidMet_laidAll _ (by kernel_rfl) (by kernel_rfl)
set_option maxRecDepth 100000 in
theorem lifted (os : Os) (started : os.Started) (H : Type) (enc : TypeId × Value → H) (F : Stop.Interp) :
    ReturnsInHanded {} Tryz.checked os 4 .any ((OpenSpec.ofChange Rows.parseChainsSpec).preRow enc Tryz.prog Tryz.f4 Rows.parseChainsRow.domain false Rows.parseChainsRow.laid) (((OpenSpec.ofChange Rows.parseChainsSpec).at F).post enc Tryz.prog Tryz.f4 false true false false) := by
  refine returnsInHanded_of_row (C := Tryz.checked) (s := OpenSpec.ofChange Rows.parseChainsSpec) own started (by kernel_rfl) Tryz.func4
    (ChangeSpec.witness_shaped (enc := enc) (C := Tryz.checked) (os := os) (X := fun w _ => laidMetH Tryz.prog Rows.parseChainsRow.laid w) false (World.laidAll Tryz.prog os Rows.parseChainsRow.laid) #[.int .i64 0, .int .i64 0, .int .i64 0] 8 (World.laidAll_os _ _ _)
      (World.shaped_of_ZipB (by kernel_rfl) (by kernel_rfl)) (by kernel_rfl) (by kernel_rfl) (by kernel_rfl)
      (by rw [MakeChecks.laidMetH_plain _ _ _ (by kernel_rfl)]; exact laid_met os)) ?_
  intro W base args ds gs before hval0 hW hcnd _ hsz0 hL hS _
  obtain ⟨m, hm⟩ : ∃ m : Int, W.cell? ⟨0, 0, none⟩ = some (.int .i64 m) :=
    cell_of_shapedOpen_int (g := 0) (t := 3) (zero := #[.int .i64 0]) hS (of_decide_eq_true (by kernel_rfl)) (by kernel_rfl) rfl (by kernel_rfl) (by kernel_rfl) (by kernel_rfl)
  have hval : ∀ (j : Nat) t v, Tryz.f4.params[j]? = some t → args[j]? = some v → Value.okWide Tryz.prog W .any base t v := hval0
  have hW' := hW
  obtain ⟨p, q, hA0, hV, rfl, hfz, hnd⟩ := hW
  have hA : DataW.TrodAll enc Tryz.prog W 0 (fun _ => true) true Tryz.f4.params.toList args.toList ds p := hA0
  rw [Tryz.params4] at hA hval
  obtain ⟨v0, vs0, d0, ds0, p0, q0, hargs, rfl, rfl, h0, r0⟩ := trodAll_cons hA
  obtain ⟨v1, vs1, d1, ds1, p1, q1, rfl, rfl, rfl, h1, r1⟩ := trodAll_cons r0
  obtain ⟨v2, vs2, d2, ds2, p2, q2, rfl, rfl, rfl, h2, r2⟩ := trodAll_cons r1
  obtain ⟨rfl, rfl, rfl⟩ := trodAll_nil r2
  obtain rfl : args = #[v0, v1, v2] := by cases args; simp_all
  obtain ⟨rfl, rfl⟩ := trodVars_none hV
  obtain ⟨a0, rfl, rfl, rfl, w0⟩ := open_int Tryz.underlying3 (hval 0 3 v0 rfl rfl) h0
  obtain ⟨a1, rfl, rfl, rfl, w1⟩ := open_int Tryz.underlying3 (hval 1 3 v1 rfl rfl) h1
  obtain ⟨a2, rfl, rfl, rfl, w2⟩ := open_int Tryz.underlying3 (hval 2 3 v2 rfl rfl) h2
  clear hA0 hval0 hsz0
  refine (calls W m hm a0 a1 a2).mono fun e W' ⟨he, bel⟩ => ?_
  subst he
  exact ⟨_, rfl, _, _, _, [], _, [], hW', trodAll_mk1 (shut_bool Tryz.underlying4 _), (trodAll_cons_mk (shut_int Tryz.underlying3 w0) (trodAll_cons_mk (shut_int Tryz.underlying3 w1) (trodAll_cons_mk (shut_int Tryz.underlying3 w2) trodAll_mk0))), rfl, bel.frame _, fun h => by cases h⟩
theorem said : Rows.ParseChainsSaid :=
  OpenClaim.holds_of_cond 4 Tryz.f4 rfl rfl rfl rfl rfl rfl rfl ⟨rfl, rfl, rfl, rfl, rfl⟩ rfl rfl rfl rfl rfl (by kernel_rfl) Tryz.func4 (by kernel_rfl)
    (of_decide_eq_true (by kernel_rfl)) (by unfold Func.isWrapper; first | (rw [if_pos (by decide +kernel)]; kernel_rfl) | (rw [if_neg (by decide +kernel)]; exact ⟨rfl, rfl⟩))
    (fun os started H enc _ F => by rw [OpenClaim.pre_eq_preRow]; exact lifted os started H enc F)
theorem plain (f : FuncId) (fn : Func) (hf : Tryz.pinned.checked.prog.funcNamed "umlaut/umlautlaw18.ParseChains" = some f) (hfn : Tryz.pinned.checked.prog.funcs[f]? = some fn) :
    true = Tryz.pinned.checked.prog.looks [] ∧ ∀ (j : Nat) t, fn.params[j]? = some t → Tryz.pinned.checked.prog.wantsStandIn t = false := by
  obtain rfl : f = 4 := Option.some.inj ((show Tryz.prog.funcNamed "umlaut/umlautlaw18.ParseChains" = some 4 by kernel_rfl).symm.trans hf) |>.symm
  obtain rfl : fn = Tryz.f4 := (Option.some.inj (Tryz.func4.symm.trans hfn)).symm
  refine ⟨by kernel_rfl, fun j t ht => ?_⟩
  rw [Tryz.params4] at ht
  have hm : t ∈ [3] := by
    have := Array.mem_of_getElem? ht
    simp at this ⊢
    omega
  have hall : ([3].all fun u => !Tryz.prog.wantsStandIn u) = true := by kernel_rfl
  exact (show Tryz.prog.wantsStandIn t = false by simpa using List.all_eq_true.1 hall t hm)
theorem card : Rows.ParseChainsCardSaid :=
  Claim7.holds_tied_plain_at .later [] _ _ _ _ said (fun _ h => by cases h) (by kernel_rfl) (fun _ h => by cases h) parseChains_row_tie rfl ⟨rfl, rfl⟩ (by kernel_rfl) rfl plain (by kernel_rfl)
#print axioms card
end Go.Proofs.YtnnmbmgdhlejiaaGreatDoor.parseChains
namespace Go.Proofs.YtnnmbmgdhlejiaaGreatDoor
/-- The card, under a short name, for the claim. -/
theorem parseChains_card : Rows.ParseChainsCardSaid := parseChains.card
end Go.Proofs.YtnnmbmgdhlejiaaGreatDoor
