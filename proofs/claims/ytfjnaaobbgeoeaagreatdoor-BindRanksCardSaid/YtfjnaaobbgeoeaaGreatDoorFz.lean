/-
  BindRanks: its row and its card.
-/
import Derived.Test.YtfjnaaobbgeoeaaGreatDoorFa
import Derived.Test.YtfjnaaobbgeoeaaGreatDoorFb
import Derived.Test.YtfjnaaobbgeoeaaGreatDoorFc
import Derived.Test.YtfjnaaobbgeoeaaGreatDoorFd
import Derived.Test.YtfjnaaobbgeoeaaGreatDoorFe
import Derived.Test.YtfjnaaobbgeoeaaGreatDoorFf
import Derived.Test.YtfjnaaobbgeoeaaGreatDoorFg
import Derived.Test.YtfjnaaobbgeoeaaGreatDoorFh
import Derived.Test.YtfjnaaobbgeoeaaGreatDoorFi
import Derived.Test.YtfjnaaobbgeoeaaGreatDoorFj
import Derived.Test.YtfjnaaobbgeoeaaGreatDoorFk
import Derived.Test.YtfjnaaobbgeoeaaGreatDoorFl
import Derived.Test.YtfjnaaobbgeoeaaGreatDoorFm
import Derived.Test.YtfjnaaobbgeoeaaGreatDoorFn
import Derived.Test.YtfjnaaobbgeoeaaGreatDoorFo
import Derived.Test.YtfjnaaobbgeoeaaGreatDoorFp
import Derived.Test.YtfjnaaobbgeoeaaGreatDoorCards
import Derived.Test.YtfjnaaobbgeoeaaGreatDoorTie
import Derived.WalkKit
import Derived.ProofKit
import Derived.OpenShut
import Derived.ChangeOld
import Derived.Below
import Derived.SizedLaws
import Derived.Deep.DeepHandedRow
import Derived.Lay
import Derived.Lib.LaidU8
import Derived.LaidLaws
import Derived.MakeChecks
set_option maxRecDepth 100000
set_option linter.all false
namespace Go.Dk.Run
open Go Go.Dk
theorem rnk000 : ∀ r, r < 4 → rankOk 0 0 0 r = true
  | 0, _ => rk0000
  | 1, _ => rk0001
  | 2, _ => rk0002
  | 3, _ => rk0003
  | r + 4, h => absurd h (by omega)
theorem rnk001 : ∀ r, r < 4 → rankOk 0 0 1 r = true
  | 0, _ => rk0010
  | 1, _ => rk0011
  | 2, _ => rk0012
  | 3, _ => rk0013
  | r + 4, h => absurd h (by omega)
theorem rnk002 : ∀ r, r < 4 → rankOk 0 0 2 r = true
  | 0, _ => rk0020
  | 1, _ => rk0021
  | 2, _ => rk0022
  | 3, _ => rk0023
  | r + 4, h => absurd h (by omega)
theorem rnk003 : ∀ r, r < 4 → rankOk 0 0 3 r = true
  | 0, _ => rk0030
  | 1, _ => rk0031
  | 2, _ => rk0032
  | 3, _ => rk0033
  | r + 4, h => absurd h (by omega)
theorem rnk00 : ∀ l, l < 4 → ∀ r, r < 4 → rankOk 0 0 l r = true
  | 0, _ => rnk000
  | 1, _ => rnk001
  | 2, _ => rnk002
  | 3, _ => rnk003
  | l + 4, h => absurd h (by omega)
theorem rnk010 : ∀ r, r < 4 → rankOk 0 1 0 r = true
  | 0, _ => rk0100
  | 1, _ => rk0101
  | 2, _ => rk0102
  | 3, _ => rk0103
  | r + 4, h => absurd h (by omega)
theorem rnk011 : ∀ r, r < 4 → rankOk 0 1 1 r = true
  | 0, _ => rk0110
  | 1, _ => rk0111
  | 2, _ => rk0112
  | 3, _ => rk0113
  | r + 4, h => absurd h (by omega)
theorem rnk012 : ∀ r, r < 4 → rankOk 0 1 2 r = true
  | 0, _ => rk0120
  | 1, _ => rk0121
  | 2, _ => rk0122
  | 3, _ => rk0123
  | r + 4, h => absurd h (by omega)
theorem rnk013 : ∀ r, r < 4 → rankOk 0 1 3 r = true
  | 0, _ => rk0130
  | 1, _ => rk0131
  | 2, _ => rk0132
  | 3, _ => rk0133
  | r + 4, h => absurd h (by omega)
theorem rnk01 : ∀ l, l < 4 → ∀ r, r < 4 → rankOk 0 1 l r = true
  | 0, _ => rnk010
  | 1, _ => rnk011
  | 2, _ => rnk012
  | 3, _ => rnk013
  | l + 4, h => absurd h (by omega)
theorem rnk020 : ∀ r, r < 4 → rankOk 0 2 0 r = true
  | 0, _ => rk0200
  | 1, _ => rk0201
  | 2, _ => rk0202
  | 3, _ => rk0203
  | r + 4, h => absurd h (by omega)
theorem rnk021 : ∀ r, r < 4 → rankOk 0 2 1 r = true
  | 0, _ => rk0210
  | 1, _ => rk0211
  | 2, _ => rk0212
  | 3, _ => rk0213
  | r + 4, h => absurd h (by omega)
theorem rnk022 : ∀ r, r < 4 → rankOk 0 2 2 r = true
  | 0, _ => rk0220
  | 1, _ => rk0221
  | 2, _ => rk0222
  | 3, _ => rk0223
  | r + 4, h => absurd h (by omega)
theorem rnk023 : ∀ r, r < 4 → rankOk 0 2 3 r = true
  | 0, _ => rk0230
  | 1, _ => rk0231
  | 2, _ => rk0232
  | 3, _ => rk0233
  | r + 4, h => absurd h (by omega)
theorem rnk02 : ∀ l, l < 4 → ∀ r, r < 4 → rankOk 0 2 l r = true
  | 0, _ => rnk020
  | 1, _ => rnk021
  | 2, _ => rnk022
  | 3, _ => rnk023
  | l + 4, h => absurd h (by omega)
theorem rnk030 : ∀ r, r < 4 → rankOk 0 3 0 r = true
  | 0, _ => rk0300
  | 1, _ => rk0301
  | 2, _ => rk0302
  | 3, _ => rk0303
  | r + 4, h => absurd h (by omega)
theorem rnk031 : ∀ r, r < 4 → rankOk 0 3 1 r = true
  | 0, _ => rk0310
  | 1, _ => rk0311
  | 2, _ => rk0312
  | 3, _ => rk0313
  | r + 4, h => absurd h (by omega)
theorem rnk032 : ∀ r, r < 4 → rankOk 0 3 2 r = true
  | 0, _ => rk0320
  | 1, _ => rk0321
  | 2, _ => rk0322
  | 3, _ => rk0323
  | r + 4, h => absurd h (by omega)
theorem rnk033 : ∀ r, r < 4 → rankOk 0 3 3 r = true
  | 0, _ => rk0330
  | 1, _ => rk0331
  | 2, _ => rk0332
  | 3, _ => rk0333
  | r + 4, h => absurd h (by omega)
theorem rnk03 : ∀ l, l < 4 → ∀ r, r < 4 → rankOk 0 3 l r = true
  | 0, _ => rnk030
  | 1, _ => rnk031
  | 2, _ => rnk032
  | 3, _ => rnk033
  | l + 4, h => absurd h (by omega)
theorem rnk0 : ∀ b, b < 4 → ∀ l, l < 4 → ∀ r, r < 4 → rankOk 0 b l r = true
  | 0, _ => rnk00
  | 1, _ => rnk01
  | 2, _ => rnk02
  | 3, _ => rnk03
  | b + 4, h => absurd h (by omega)
theorem rnk100 : ∀ r, r < 4 → rankOk 1 0 0 r = true
  | 0, _ => rk1000
  | 1, _ => rk1001
  | 2, _ => rk1002
  | 3, _ => rk1003
  | r + 4, h => absurd h (by omega)
theorem rnk101 : ∀ r, r < 4 → rankOk 1 0 1 r = true
  | 0, _ => rk1010
  | 1, _ => rk1011
  | 2, _ => rk1012
  | 3, _ => rk1013
  | r + 4, h => absurd h (by omega)
theorem rnk102 : ∀ r, r < 4 → rankOk 1 0 2 r = true
  | 0, _ => rk1020
  | 1, _ => rk1021
  | 2, _ => rk1022
  | 3, _ => rk1023
  | r + 4, h => absurd h (by omega)
theorem rnk103 : ∀ r, r < 4 → rankOk 1 0 3 r = true
  | 0, _ => rk1030
  | 1, _ => rk1031
  | 2, _ => rk1032
  | 3, _ => rk1033
  | r + 4, h => absurd h (by omega)
theorem rnk10 : ∀ l, l < 4 → ∀ r, r < 4 → rankOk 1 0 l r = true
  | 0, _ => rnk100
  | 1, _ => rnk101
  | 2, _ => rnk102
  | 3, _ => rnk103
  | l + 4, h => absurd h (by omega)
theorem rnk110 : ∀ r, r < 4 → rankOk 1 1 0 r = true
  | 0, _ => rk1100
  | 1, _ => rk1101
  | 2, _ => rk1102
  | 3, _ => rk1103
  | r + 4, h => absurd h (by omega)
theorem rnk111 : ∀ r, r < 4 → rankOk 1 1 1 r = true
  | 0, _ => rk1110
  | 1, _ => rk1111
  | 2, _ => rk1112
  | 3, _ => rk1113
  | r + 4, h => absurd h (by omega)
theorem rnk112 : ∀ r, r < 4 → rankOk 1 1 2 r = true
  | 0, _ => rk1120
  | 1, _ => rk1121
  | 2, _ => rk1122
  | 3, _ => rk1123
  | r + 4, h => absurd h (by omega)
theorem rnk113 : ∀ r, r < 4 → rankOk 1 1 3 r = true
  | 0, _ => rk1130
  | 1, _ => rk1131
  | 2, _ => rk1132
  | 3, _ => rk1133
  | r + 4, h => absurd h (by omega)
theorem rnk11 : ∀ l, l < 4 → ∀ r, r < 4 → rankOk 1 1 l r = true
  | 0, _ => rnk110
  | 1, _ => rnk111
  | 2, _ => rnk112
  | 3, _ => rnk113
  | l + 4, h => absurd h (by omega)
theorem rnk120 : ∀ r, r < 4 → rankOk 1 2 0 r = true
  | 0, _ => rk1200
  | 1, _ => rk1201
  | 2, _ => rk1202
  | 3, _ => rk1203
  | r + 4, h => absurd h (by omega)
theorem rnk121 : ∀ r, r < 4 → rankOk 1 2 1 r = true
  | 0, _ => rk1210
  | 1, _ => rk1211
  | 2, _ => rk1212
  | 3, _ => rk1213
  | r + 4, h => absurd h (by omega)
theorem rnk122 : ∀ r, r < 4 → rankOk 1 2 2 r = true
  | 0, _ => rk1220
  | 1, _ => rk1221
  | 2, _ => rk1222
  | 3, _ => rk1223
  | r + 4, h => absurd h (by omega)
theorem rnk123 : ∀ r, r < 4 → rankOk 1 2 3 r = true
  | 0, _ => rk1230
  | 1, _ => rk1231
  | 2, _ => rk1232
  | 3, _ => rk1233
  | r + 4, h => absurd h (by omega)
theorem rnk12 : ∀ l, l < 4 → ∀ r, r < 4 → rankOk 1 2 l r = true
  | 0, _ => rnk120
  | 1, _ => rnk121
  | 2, _ => rnk122
  | 3, _ => rnk123
  | l + 4, h => absurd h (by omega)
theorem rnk130 : ∀ r, r < 4 → rankOk 1 3 0 r = true
  | 0, _ => rk1300
  | 1, _ => rk1301
  | 2, _ => rk1302
  | 3, _ => rk1303
  | r + 4, h => absurd h (by omega)
theorem rnk131 : ∀ r, r < 4 → rankOk 1 3 1 r = true
  | 0, _ => rk1310
  | 1, _ => rk1311
  | 2, _ => rk1312
  | 3, _ => rk1313
  | r + 4, h => absurd h (by omega)
theorem rnk132 : ∀ r, r < 4 → rankOk 1 3 2 r = true
  | 0, _ => rk1320
  | 1, _ => rk1321
  | 2, _ => rk1322
  | 3, _ => rk1323
  | r + 4, h => absurd h (by omega)
theorem rnk133 : ∀ r, r < 4 → rankOk 1 3 3 r = true
  | 0, _ => rk1330
  | 1, _ => rk1331
  | 2, _ => rk1332
  | 3, _ => rk1333
  | r + 4, h => absurd h (by omega)
theorem rnk13 : ∀ l, l < 4 → ∀ r, r < 4 → rankOk 1 3 l r = true
  | 0, _ => rnk130
  | 1, _ => rnk131
  | 2, _ => rnk132
  | 3, _ => rnk133
  | l + 4, h => absurd h (by omega)
theorem rnk1 : ∀ b, b < 4 → ∀ l, l < 4 → ∀ r, r < 4 → rankOk 1 b l r = true
  | 0, _ => rnk10
  | 1, _ => rnk11
  | 2, _ => rnk12
  | 3, _ => rnk13
  | b + 4, h => absurd h (by omega)
theorem rnk200 : ∀ r, r < 4 → rankOk 2 0 0 r = true
  | 0, _ => rk2000
  | 1, _ => rk2001
  | 2, _ => rk2002
  | 3, _ => rk2003
  | r + 4, h => absurd h (by omega)
theorem rnk201 : ∀ r, r < 4 → rankOk 2 0 1 r = true
  | 0, _ => rk2010
  | 1, _ => rk2011
  | 2, _ => rk2012
  | 3, _ => rk2013
  | r + 4, h => absurd h (by omega)
theorem rnk202 : ∀ r, r < 4 → rankOk 2 0 2 r = true
  | 0, _ => rk2020
  | 1, _ => rk2021
  | 2, _ => rk2022
  | 3, _ => rk2023
  | r + 4, h => absurd h (by omega)
theorem rnk203 : ∀ r, r < 4 → rankOk 2 0 3 r = true
  | 0, _ => rk2030
  | 1, _ => rk2031
  | 2, _ => rk2032
  | 3, _ => rk2033
  | r + 4, h => absurd h (by omega)
theorem rnk20 : ∀ l, l < 4 → ∀ r, r < 4 → rankOk 2 0 l r = true
  | 0, _ => rnk200
  | 1, _ => rnk201
  | 2, _ => rnk202
  | 3, _ => rnk203
  | l + 4, h => absurd h (by omega)
theorem rnk210 : ∀ r, r < 4 → rankOk 2 1 0 r = true
  | 0, _ => rk2100
  | 1, _ => rk2101
  | 2, _ => rk2102
  | 3, _ => rk2103
  | r + 4, h => absurd h (by omega)
theorem rnk211 : ∀ r, r < 4 → rankOk 2 1 1 r = true
  | 0, _ => rk2110
  | 1, _ => rk2111
  | 2, _ => rk2112
  | 3, _ => rk2113
  | r + 4, h => absurd h (by omega)
theorem rnk212 : ∀ r, r < 4 → rankOk 2 1 2 r = true
  | 0, _ => rk2120
  | 1, _ => rk2121
  | 2, _ => rk2122
  | 3, _ => rk2123
  | r + 4, h => absurd h (by omega)
theorem rnk213 : ∀ r, r < 4 → rankOk 2 1 3 r = true
  | 0, _ => rk2130
  | 1, _ => rk2131
  | 2, _ => rk2132
  | 3, _ => rk2133
  | r + 4, h => absurd h (by omega)
theorem rnk21 : ∀ l, l < 4 → ∀ r, r < 4 → rankOk 2 1 l r = true
  | 0, _ => rnk210
  | 1, _ => rnk211
  | 2, _ => rnk212
  | 3, _ => rnk213
  | l + 4, h => absurd h (by omega)
theorem rnk220 : ∀ r, r < 4 → rankOk 2 2 0 r = true
  | 0, _ => rk2200
  | 1, _ => rk2201
  | 2, _ => rk2202
  | 3, _ => rk2203
  | r + 4, h => absurd h (by omega)
theorem rnk221 : ∀ r, r < 4 → rankOk 2 2 1 r = true
  | 0, _ => rk2210
  | 1, _ => rk2211
  | 2, _ => rk2212
  | 3, _ => rk2213
  | r + 4, h => absurd h (by omega)
theorem rnk222 : ∀ r, r < 4 → rankOk 2 2 2 r = true
  | 0, _ => rk2220
  | 1, _ => rk2221
  | 2, _ => rk2222
  | 3, _ => rk2223
  | r + 4, h => absurd h (by omega)
theorem rnk223 : ∀ r, r < 4 → rankOk 2 2 3 r = true
  | 0, _ => rk2230
  | 1, _ => rk2231
  | 2, _ => rk2232
  | 3, _ => rk2233
  | r + 4, h => absurd h (by omega)
theorem rnk22 : ∀ l, l < 4 → ∀ r, r < 4 → rankOk 2 2 l r = true
  | 0, _ => rnk220
  | 1, _ => rnk221
  | 2, _ => rnk222
  | 3, _ => rnk223
  | l + 4, h => absurd h (by omega)
theorem rnk230 : ∀ r, r < 4 → rankOk 2 3 0 r = true
  | 0, _ => rk2300
  | 1, _ => rk2301
  | 2, _ => rk2302
  | 3, _ => rk2303
  | r + 4, h => absurd h (by omega)
theorem rnk231 : ∀ r, r < 4 → rankOk 2 3 1 r = true
  | 0, _ => rk2310
  | 1, _ => rk2311
  | 2, _ => rk2312
  | 3, _ => rk2313
  | r + 4, h => absurd h (by omega)
theorem rnk232 : ∀ r, r < 4 → rankOk 2 3 2 r = true
  | 0, _ => rk2320
  | 1, _ => rk2321
  | 2, _ => rk2322
  | 3, _ => rk2323
  | r + 4, h => absurd h (by omega)
theorem rnk233 : ∀ r, r < 4 → rankOk 2 3 3 r = true
  | 0, _ => rk2330
  | 1, _ => rk2331
  | 2, _ => rk2332
  | 3, _ => rk2333
  | r + 4, h => absurd h (by omega)
theorem rnk23 : ∀ l, l < 4 → ∀ r, r < 4 → rankOk 2 3 l r = true
  | 0, _ => rnk230
  | 1, _ => rnk231
  | 2, _ => rnk232
  | 3, _ => rnk233
  | l + 4, h => absurd h (by omega)
theorem rnk2 : ∀ b, b < 4 → ∀ l, l < 4 → ∀ r, r < 4 → rankOk 2 b l r = true
  | 0, _ => rnk20
  | 1, _ => rnk21
  | 2, _ => rnk22
  | 3, _ => rnk23
  | b + 4, h => absurd h (by omega)
theorem rnk300 : ∀ r, r < 4 → rankOk 3 0 0 r = true
  | 0, _ => rk3000
  | 1, _ => rk3001
  | 2, _ => rk3002
  | 3, _ => rk3003
  | r + 4, h => absurd h (by omega)
theorem rnk301 : ∀ r, r < 4 → rankOk 3 0 1 r = true
  | 0, _ => rk3010
  | 1, _ => rk3011
  | 2, _ => rk3012
  | 3, _ => rk3013
  | r + 4, h => absurd h (by omega)
theorem rnk302 : ∀ r, r < 4 → rankOk 3 0 2 r = true
  | 0, _ => rk3020
  | 1, _ => rk3021
  | 2, _ => rk3022
  | 3, _ => rk3023
  | r + 4, h => absurd h (by omega)
theorem rnk303 : ∀ r, r < 4 → rankOk 3 0 3 r = true
  | 0, _ => rk3030
  | 1, _ => rk3031
  | 2, _ => rk3032
  | 3, _ => rk3033
  | r + 4, h => absurd h (by omega)
theorem rnk30 : ∀ l, l < 4 → ∀ r, r < 4 → rankOk 3 0 l r = true
  | 0, _ => rnk300
  | 1, _ => rnk301
  | 2, _ => rnk302
  | 3, _ => rnk303
  | l + 4, h => absurd h (by omega)
theorem rnk310 : ∀ r, r < 4 → rankOk 3 1 0 r = true
  | 0, _ => rk3100
  | 1, _ => rk3101
  | 2, _ => rk3102
  | 3, _ => rk3103
  | r + 4, h => absurd h (by omega)
theorem rnk311 : ∀ r, r < 4 → rankOk 3 1 1 r = true
  | 0, _ => rk3110
  | 1, _ => rk3111
  | 2, _ => rk3112
  | 3, _ => rk3113
  | r + 4, h => absurd h (by omega)
theorem rnk312 : ∀ r, r < 4 → rankOk 3 1 2 r = true
  | 0, _ => rk3120
  | 1, _ => rk3121
  | 2, _ => rk3122
  | 3, _ => rk3123
  | r + 4, h => absurd h (by omega)
theorem rnk313 : ∀ r, r < 4 → rankOk 3 1 3 r = true
  | 0, _ => rk3130
  | 1, _ => rk3131
  | 2, _ => rk3132
  | 3, _ => rk3133
  | r + 4, h => absurd h (by omega)
theorem rnk31 : ∀ l, l < 4 → ∀ r, r < 4 → rankOk 3 1 l r = true
  | 0, _ => rnk310
  | 1, _ => rnk311
  | 2, _ => rnk312
  | 3, _ => rnk313
  | l + 4, h => absurd h (by omega)
theorem rnk320 : ∀ r, r < 4 → rankOk 3 2 0 r = true
  | 0, _ => rk3200
  | 1, _ => rk3201
  | 2, _ => rk3202
  | 3, _ => rk3203
  | r + 4, h => absurd h (by omega)
theorem rnk321 : ∀ r, r < 4 → rankOk 3 2 1 r = true
  | 0, _ => rk3210
  | 1, _ => rk3211
  | 2, _ => rk3212
  | 3, _ => rk3213
  | r + 4, h => absurd h (by omega)
theorem rnk322 : ∀ r, r < 4 → rankOk 3 2 2 r = true
  | 0, _ => rk3220
  | 1, _ => rk3221
  | 2, _ => rk3222
  | 3, _ => rk3223
  | r + 4, h => absurd h (by omega)
theorem rnk323 : ∀ r, r < 4 → rankOk 3 2 3 r = true
  | 0, _ => rk3230
  | 1, _ => rk3231
  | 2, _ => rk3232
  | 3, _ => rk3233
  | r + 4, h => absurd h (by omega)
theorem rnk32 : ∀ l, l < 4 → ∀ r, r < 4 → rankOk 3 2 l r = true
  | 0, _ => rnk320
  | 1, _ => rnk321
  | 2, _ => rnk322
  | 3, _ => rnk323
  | l + 4, h => absurd h (by omega)
theorem rnk330 : ∀ r, r < 4 → rankOk 3 3 0 r = true
  | 0, _ => rk3300
  | 1, _ => rk3301
  | 2, _ => rk3302
  | 3, _ => rk3303
  | r + 4, h => absurd h (by omega)
theorem rnk331 : ∀ r, r < 4 → rankOk 3 3 1 r = true
  | 0, _ => rk3310
  | 1, _ => rk3311
  | 2, _ => rk3312
  | 3, _ => rk3313
  | r + 4, h => absurd h (by omega)
theorem rnk332 : ∀ r, r < 4 → rankOk 3 3 2 r = true
  | 0, _ => rk3320
  | 1, _ => rk3321
  | 2, _ => rk3322
  | 3, _ => rk3323
  | r + 4, h => absurd h (by omega)
theorem rnk333 : ∀ r, r < 4 → rankOk 3 3 3 r = true
  | 0, _ => rk3330
  | 1, _ => rk3331
  | 2, _ => rk3332
  | 3, _ => rk3333
  | r + 4, h => absurd h (by omega)
theorem rnk33 : ∀ l, l < 4 → ∀ r, r < 4 → rankOk 3 3 l r = true
  | 0, _ => rnk330
  | 1, _ => rnk331
  | 2, _ => rnk332
  | 3, _ => rnk333
  | l + 4, h => absurd h (by omega)
theorem rnk3 : ∀ b, b < 4 → ∀ l, l < 4 → ∀ r, r < 4 → rankOk 3 b l r = true
  | 0, _ => rnk30
  | 1, _ => rnk31
  | 2, _ => rnk32
  | 3, _ => rnk33
  | b + 4, h => absurd h (by omega)
theorem rank_all : ∀ a, a < 4 → ∀ b, b < 4 → ∀ l, l < 4 → ∀ r, r < 4 → rankOk a b l r = true
  | 0, _ => rnk0
  | 1, _ => rnk1
  | 2, _ => rnk2
  | 3, _ => rnk3
  | a + 4, h => absurd h (by omega)
theorem pend_and3 (n : Int) : ∃ r : Nat, r < 4 ∧ runPend .i64 [(.and, 3)] n = some (.ofNat r) := by
  have h1 : ibin .and .i64 n 3 = some (.int .i64 (IntKind.i64.wrap (BitVec.ofInt IntKind.i64.bits n &&& BitVec.ofInt IntKind.i64.bits 3).toNat)) := rfl
  have h2 : (BitVec.ofInt IntKind.i64.bits n &&& BitVec.ofInt IntKind.i64.bits 3).toNat ≤ 3 := by
    rw [BitVec.toNat_and]
    exact Nat.le_trans Nat.and_le_right (by decide)
  generalize (BitVec.ofInt IntKind.i64.bits n &&& BitVec.ofInt IntKind.i64.bits 3).toNat = x at h1 h2
  have h3 : IntKind.i64.wrap (x : Int) = (x : Int) := by
    unfold IntKind.wrap
    simp [IntKind.bits, IntKind.signed]
    omega
  refine ⟨x, by omega, ?_⟩
  unfold runPend
  rw [h1]
  simp only [h3]
  unfold runPend
  rfl
noncomputable def φg : Emb := fun b => some (b.num, 0)
theorem φg_ok : GOk φg := fun b _ => ⟨0, rfl⟩
end Go.Dk.Run
namespace Go.Proofs.YtfjnaaobbgeoeaaGreatDoor.bindRanks
open Go.ChangeShapes Go.WideShapes Go.ChangeAt Go.RowKit
theorem calls (W : World) (a b l r : Int) : Calls Tryz.prog 3 #[.int .i64 a, .int .i64 b, .int .i64 l, .int .i64 r] W fun e w' => e = .returned (.bool true) ∧ Below W.heap.size W w' := by
  obtain ⟨r1, h1, e1⟩ := Dk.Run.pend_and3 a
  obtain ⟨r2, h2, e2⟩ := Dk.Run.pend_and3 b
  obtain ⟨r3, h3, e3⟩ := Dk.Run.pend_and3 l
  obtain ⟨r4, h4, e4⟩ := Dk.Run.pend_and3 r
  exact Dk.Run.true_fresh (k := ⟨.d0, .d0, .d3⟩) (fun [Dk.Keep] => Dk.Run.okFA3) (Dk.Run.rank_all r1 h1 r2 h2 r3 h3 r4 h4) Dk.Run.φg_ok (.cons _ _ _ _ (.pend _ _ _ _ e1 (by simp)) (.cons _ _ _ _ (.pend _ _ _ _ e2 (by simp)) (.cons _ _ _ _ (.pend _ _ _ _ e3 (by simp)) (.cons _ _ _ _ (.pend _ _ _ _ e4 (by simp)) .nil))))
theorem own : ownKnob Tryz.prog.godebug = none := by kernel_rfl
theorem laidOut : laidOutB Tryz.prog = true := by kernel_rfl
theorem laid_met (os : Os) : laidMet Tryz.prog Rows.bindRanksRow.laid ((World.laidAll Tryz.prog os Rows.bindRanksRow.laid).forCall (fun _ _ => 0) ⟨#[], #[.int .i64 0, .int .i64 0, .int .i64 0, .int .i64 0], []⟩).memory :=
  laidMet_laidAll _ (by kernel_rfl) (by kernel_rfl)
theorem lifted (os : Os) (started : os.Started) (H : Type) (enc : TypeId × Value → H) (F : Stop.Interp) :
    ReturnsInHanded {} Tryz.checked os 3 .any ((OpenSpec.ofChange Rows.bindRanksSpec).preRow enc Tryz.prog Tryz.f3 Rows.bindRanksRow.domain false Rows.bindRanksRow.laid) (((OpenSpec.ofChange Rows.bindRanksSpec).at F).post enc Tryz.prog Tryz.f3 false true false false) := by
  refine returnsInHanded_of_row (C := Tryz.checked) (s := OpenSpec.ofChange Rows.bindRanksSpec) own started (by kernel_rfl) Tryz.func3
    (ChangeSpec.witness_shaped (enc := enc) (C := Tryz.checked) (os := os) (X := fun w _ => laidMetH Tryz.prog Rows.bindRanksRow.laid w) false (World.laidAll Tryz.prog os Rows.bindRanksRow.laid) #[.int .i64 0, .int .i64 0, .int .i64 0, .int .i64 0] 8 (World.laidAll_os _ _ _)
      (World.shaped_of_ZipB (by kernel_rfl) (by kernel_rfl)) (by kernel_rfl) (by kernel_rfl) (by kernel_rfl)
      (by rw [MakeChecks.laidMetH_plain _ _ _ (by kernel_rfl)]; exact laid_met os)) ?_
  intro W base args ds gs before hval0 hW hcnd _ hsz0 hL hS _
  have hval : ∀ (j : Nat) t v, Tryz.f3.params[j]? = some t → args[j]? = some v → Value.okWide Tryz.prog W .any base t v := hval0
  have hW' := hW
  obtain ⟨p, q, hA0, hV, rfl, hfz, hnd⟩ := hW
  have hA : DataW.TrodAll enc Tryz.prog W 0 (fun _ => true) true Tryz.f3.params.toList args.toList ds p := hA0
  rw [Tryz.params3] at hA hval
  obtain ⟨v0, vs0, d0, ds0, p0, q0, hargs, rfl, rfl, h0, r0⟩ := trodAll_cons hA
  obtain ⟨v1, vs1, d1, ds1, p1, q1, rfl, rfl, rfl, h1, r1⟩ := trodAll_cons r0
  obtain ⟨v2, vs2, d2, ds2, p2, q2, rfl, rfl, rfl, h2, r2⟩ := trodAll_cons r1
  obtain ⟨v3, vs3, d3, ds3, p3, q3, rfl, rfl, rfl, h3, r3⟩ := trodAll_cons r2
  obtain ⟨rfl, rfl, rfl⟩ := trodAll_nil r3
  obtain rfl : args = #[v0, v1, v2, v3] := by cases args; simp_all
  obtain ⟨rfl, rfl⟩ := trodVars_none hV
  obtain ⟨a0, rfl, rfl, rfl, w0⟩ := open_int Tryz.underlying3 (hval 0 3 v0 rfl rfl) h0
  obtain ⟨a1, rfl, rfl, rfl, w1⟩ := open_int Tryz.underlying3 (hval 1 3 v1 rfl rfl) h1
  obtain ⟨a2, rfl, rfl, rfl, w2⟩ := open_int Tryz.underlying3 (hval 2 3 v2 rfl rfl) h2
  obtain ⟨a3, rfl, rfl, rfl, w3⟩ := open_int Tryz.underlying3 (hval 3 3 v3 rfl rfl) h3
  clear hA0 hval0 hsz0
  refine (calls W a0 a1 a2 a3).mono fun e W' ⟨he, bel⟩ => ?_
  subst he
  exact ⟨_, rfl, _, _, _, [], _, [], hW', trodAll_mk1 (shut_bool Tryz.underlying4 _), (trodAll_cons_mk (shut_int Tryz.underlying3 w0) (trodAll_cons_mk (shut_int Tryz.underlying3 w1) (trodAll_cons_mk (shut_int Tryz.underlying3 w2) (trodAll_cons_mk (shut_int Tryz.underlying3 w3) trodAll_mk0)))), rfl, bel.frame _, fun h => by cases h⟩
theorem said : Rows.BindRanksSaid :=
  OpenClaim.holds_of_cond 3 Tryz.f3 rfl rfl rfl rfl rfl rfl rfl ⟨rfl, rfl, rfl, rfl, rfl⟩ rfl rfl rfl rfl rfl (by kernel_rfl) Tryz.func3 (by kernel_rfl)
    (of_decide_eq_true (by kernel_rfl)) (by unfold Func.isWrapper; first | (rw [if_pos (by decide +kernel)]; kernel_rfl) | (rw [if_neg (by decide +kernel)]; exact ⟨rfl, rfl⟩))
    (fun os started H enc _ F => by rw [OpenClaim.pre_eq_preRow]; exact lifted os started H enc F)
theorem plain (f : FuncId) (fn : Func) (hf : Tryz.pinned.checked.prog.funcNamed "umlaut/umlautlaw20.BindRanks" = some f) (hfn : Tryz.pinned.checked.prog.funcs[f]? = some fn) :
    false = Tryz.pinned.checked.prog.looks [] ∧ ∀ (j : Nat) t, fn.params[j]? = some t → Tryz.pinned.checked.prog.wantsStandIn t = false := by
  obtain rfl : f = 3 := Option.some.inj ((show Tryz.prog.funcNamed "umlaut/umlautlaw20.BindRanks" = some 3 by kernel_rfl).symm.trans hf) |>.symm
  obtain rfl : fn = Tryz.f3 := (Option.some.inj (Tryz.func3.symm.trans hfn)).symm
  refine ⟨by kernel_rfl, fun j t ht => ?_⟩
  rw [Tryz.params3] at ht
  have hm : t ∈ [3] := by
    have := Array.mem_of_getElem? ht
    simp at this ⊢
    omega
  have hall : ([3].all fun u => !Tryz.prog.wantsStandIn u) = true := by kernel_rfl
  exact (show Tryz.prog.wantsStandIn t = false by simpa using List.all_eq_true.1 hall t hm)
theorem card : Rows.BindRanksCardSaid :=
  Claim7.holds_tied_plain_at .later [] _ _ _ _ said (fun _ h => by cases h) (by kernel_rfl) (fun _ h => by cases h) bindRanks_row_tie rfl ⟨rfl, rfl⟩ (by kernel_rfl) rfl plain (by kernel_rfl)
#print axioms card
end Go.Proofs.YtfjnaaobbgeoeaaGreatDoor.bindRanks
namespace Go.Proofs.YtfjnaaobbgeoeaaGreatDoor
/-- The card, under a short name, for the claim. -/
theorem bindRanks_card : Rows.BindRanksCardSaid := bindRanks.card
end Go.Proofs.YtfjnaaobbgeoeaaGreatDoor
