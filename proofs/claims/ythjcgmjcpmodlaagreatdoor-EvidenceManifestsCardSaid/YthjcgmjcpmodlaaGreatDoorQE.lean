/- Texts joined: Shelf Va Vd. -/
import Derived.Shelf.SlSortCmp.WholeK
import Derived.Ground.SlsfProg
import Derived.Shelf.Strings.OnBuilder
import Derived.Shelf.LaysM
import Derived.Shelf.Strconv.Itoa3
import Derived.Shelf.Sort.Plain
import Derived.Shelf.Strings.FuncGrows
import Derived.Shelf.Slices.CompactI
import Derived.Shelf.Slices.In.SortNone
import Derived.Test.YthjcgmjcpmodlaaGreatDoorProg
import Derived.Test.YthjcgmjcpmodlaaGreatDoorQD
import Derived.Test.YthjcgmjcpmodlaaGreatDoorQFacts
set_option linter.unusedSimpArgs false
set_option linter.unusedVariables false

namespace Go.Proofs
open Go.Shelf
def Tryz.lays156_ren : Go.Shelf.Ren := ⟨fun | 156 => 45 | 165 => 68 | 166 => 69 | 169 => 70 | 240 => 84 | 241 => 85 | 276 => 95 | 277 => 96 | n => n, fun | 31 => 35 | 9 => 9 | 3 => 3 | 4 => 4 | 0 => 0 | 20 => 20 | 72 => 102 | 76 => 106 | 70 => 99 | 37 => 100 | 75 => 105 | 127 => 122 | 164 => 134 | 5 => 5 | 80 => 108 | n => n, fun | n => n⟩
theorem Tryz.lays156 : Go.Proofs.Lays.n156 Tryz.prog Tryz.lays156_ren := {
  mixed := by kernel_rfl
  f156 := Tryz.func45.trans (congrArg some (by kernel_rfl))
  f165 := Tryz.func68.trans (congrArg some (by kernel_rfl))
  f166 := Tryz.func69.trans (congrArg some (by kernel_rfl))
  f169 := Tryz.func70.trans (congrArg some (by kernel_rfl))
  f240 := Tryz.func84.trans (congrArg some (by kernel_rfl))
  f241 := Tryz.func85.trans (congrArg some (by kernel_rfl))
  f276 := Tryz.func95.trans (congrArg some (by kernel_rfl))
  f277 := Tryz.func96.trans (congrArg some (by kernel_rfl))
  t0 := Tryz.underlying0
  a0 := Tryz.isAgg0
  z0 := Tryz.sizeOf0
  v0 := Tryz.zeroValue0
  t3 := Tryz.underlying3
  a3 := Tryz.isAgg3
  z3 := Tryz.sizeOf3
  v3 := Tryz.zeroValue3
  t4 := Tryz.underlying4
  a4 := Tryz.isAgg4
  z4 := Tryz.sizeOf4
  v4 := Tryz.zeroValue4
  t9 := Tryz.underlying9
  a9 := Tryz.isAgg9
  z9 := Tryz.sizeOf9
  v9 := Tryz.zeroValue9
  t20 := Tryz.underlying20
  a20 := Tryz.isAgg20
  z20 := Tryz.sizeOf20
  v20 := Tryz.zeroValue20
  t31 := Tryz.underlying35
  a31 := Tryz.isAgg35
  z31 := Tryz.sizeOf35
  v31 := Tryz.zeroValue35
  t37 := Tryz.underlying100
  a37 := Tryz.isAgg100
  z37 := Tryz.sizeOf100
  v37 := Tryz.zeroValue100
  t70 := Tryz.underlying99
  a70 := Tryz.isAgg99
  z70 := Tryz.sizeOf99
  v70 := Tryz.zeroValue99
  t72 := Tryz.underlying102
  a72 := Tryz.isAgg102
  z72 := Tryz.sizeOf102
  v72 := Tryz.zeroValue102
  t75 := Tryz.underlying105
  a75 := Tryz.isAgg105
  z75 := Tryz.sizeOf105
  v75 := Tryz.zeroValue105
  t76 := Tryz.underlying106
  a76 := Tryz.isAgg106
  z76 := Tryz.sizeOf106
  v76 := Tryz.zeroValue106
  t127 := Tryz.underlying122
  a127 := Tryz.isAgg122
  z127 := Tryz.sizeOf122
  v127 := Tryz.zeroValue122
  t164 := Tryz.underlying134
  a164 := Tryz.isAgg134
  z164 := Tryz.sizeOf134
  v164 := Tryz.zeroValue134 }
theorem Tryz.Builder_Extra_156 : Builder.Extra Tryz.prog Tryz.lays156_ren := {
  sizeBuilder := by kernel_rfl
  liesBuilder := by kernel_rfl
  t5 := Tryz.underlying5
  a5 := Tryz.isAgg5
  z5 := Tryz.sizeOf5
  v5 := Tryz.zeroValue5
  infoByte := by kernel_rfl
  cellsByte := by kernel_rfl
  sizeByte := by kernel_rfl
  neB5 := by decide }
open Go.RowKit in
theorem Tryz.strings_Join_none (a : Option Addr) (c : Nat) (sep : ByteArray) (w : World) :
    Calls Tryz.prog 45 #[.slice a 0 c, .string sep] w fun e w' => e = .returned (.string ⟨#[]⟩) ∧ w' = w := Any.strings_Join_none Tryz.lays156 Tryz.Builder_Extra_156 a c sep w
open Go.RowKit in
theorem Tryz.strings_Join (bk o c : Nat) (xs : List ByteArray) (sep : ByteArray) (w : World) (hcells : ∀ (j : Nat) x, xs[j]? = some x → w.cell? ⟨bk, o + j, none⟩ = some (.string x)) (hbk : bk < w.heap.size) (hN : xs.length ≤ 140737488355328) (hcap : xs.length ≤ c) (hlen : (Lib.join (xs.map (·.data.toList)) sep.data.toList).length ≤ 140737488355328) :
    Calls Tryz.prog 45 #[.slice (some ⟨bk, o, none⟩) xs.length c, .string sep] w fun e w' => e = .returned (.string ⟨(Lib.join (xs.map (·.data.toList)) sep.data.toList).toArray⟩) ∧ Below w.heap.size w w' := Any.strings_Join Tryz.lays156 Tryz.Builder_Extra_156 bk o c xs sep w hcells hbk hN hcap hlen
def Tryz.laysM171_ren : Go.Shelf.Ren := ⟨fun | 171 => 44 | 243 => 67 | 246 => 83 | 283 => 91 | 284 => 92 | 285 => 93 | 286 => 94 | 129 => 62 | 317 => 105 | 318 => 106 | 319 => 107 | 320 => 108 | 337 => 112 | 338 => 113 | n => n, fun | 3 => 3 | 9 => 9 | 2 => 2 | 4 => 4 | 171 => 130 | 0 => 0 | 53 => 94 | 37 => 100 | 5 => 5 | 173 => 132 | 212 => 144 | 51 => 92 | 20 => 20 | 213 => 145 | 46 => 72 | 232 => 149 | 233 => 150 | n => n, fun | 17 => 0 | 18 => 2 | 19 => 3 | n => n⟩
theorem Tryz.laysM171 : Go.Proofs.LaysM.n171 Tryz.prog Tryz.laysM171_ren := {
  mixed := by kernel_rfl
  f129 := Tryz.func62.trans (congrArg some (by kernel_rfl))
  f171 := Tryz.func44.trans (congrArg some (by kernel_rfl))
  f243 := Tryz.func67.trans (congrArg some (by kernel_rfl))
  f246 := Tryz.func83.trans (congrArg some (by kernel_rfl))
  f283 := Tryz.func91.trans (congrArg some (by kernel_rfl))
  f284 := Tryz.func92.trans (congrArg some (by kernel_rfl))
  f285 := Tryz.func93.trans (congrArg some (by kernel_rfl))
  f286 := Tryz.func94.trans (congrArg some (by kernel_rfl))
  f317 := Tryz.func105.trans (congrArg some (by kernel_rfl))
  f318 := Tryz.func106.trans (congrArg some (by kernel_rfl))
  f319 := Tryz.func107.trans (congrArg some (by kernel_rfl))
  f320 := Tryz.func108.trans (congrArg some (by kernel_rfl))
  f337 := Tryz.func112.trans (congrArg some (by kernel_rfl))
  f338 := Tryz.func113.trans (congrArg some (by kernel_rfl))
  t0 := Tryz.underlying0
  a0 := Tryz.isAgg0
  z0 := Tryz.sizeOf0
  v0 := Tryz.zeroValue0
  t2 := Tryz.underlying2
  a2 := Tryz.isAgg2
  z2 := Tryz.sizeOf2
  v2 := Tryz.zeroValue2
  t3 := Tryz.underlying3
  a3 := Tryz.isAgg3
  z3 := Tryz.sizeOf3
  v3 := Tryz.zeroValue3
  t4 := Tryz.underlying4
  a4 := Tryz.isAgg4
  z4 := Tryz.sizeOf4
  v4 := Tryz.zeroValue4
  t5 := Tryz.underlying5
  a5 := Tryz.isAgg5
  z5 := Tryz.sizeOf5
  v5 := Tryz.zeroValue5
  t9 := Tryz.underlying9
  a9 := Tryz.isAgg9
  z9 := Tryz.sizeOf9
  v9 := Tryz.zeroValue9
  t20 := Tryz.underlying20
  a20 := Tryz.isAgg20
  z20 := Tryz.sizeOf20
  v20 := Tryz.zeroValue20
  t37 := Tryz.underlying100
  a37 := Tryz.isAgg100
  z37 := Tryz.sizeOf100
  v37 := Tryz.zeroValue100
  t46 := Tryz.underlying72
  a46 := Tryz.isAgg72
  z46 := Tryz.sizeOf72
  v46 := Tryz.zeroValue72
  t51 := Tryz.underlying92
  a51 := Tryz.isAgg92
  z51 := Tryz.sizeOf92
  v51 := Tryz.zeroValue92
  t53 := Tryz.underlying94
  a53 := Tryz.isAgg94
  z53 := Tryz.sizeOf94
  v53 := Tryz.zeroValue94
  t171 := Tryz.underlying130
  a171 := Tryz.isAgg130
  z171 := Tryz.sizeOf130
  v171 := Tryz.zeroValue130
  t173 := Tryz.underlying132
  a173 := Tryz.isAgg132
  z173 := Tryz.sizeOf132
  v173 := Tryz.zeroValue132
  t212 := Tryz.underlying144
  a212 := Tryz.isAgg144
  z212 := Tryz.sizeOf144
  v212 := Tryz.zeroValue144
  t213 := Tryz.underlying145
  a213 := Tryz.isAgg145
  z213 := Tryz.sizeOf145
  t232 := Tryz.underlying149
  a232 := Tryz.isAgg149
  z232 := Tryz.sizeOf149
  v232 := Tryz.zeroValue149
  t233 := Tryz.underlying150
  a233 := Tryz.isAgg150
  z233 := Tryz.sizeOf150
  v233 := Tryz.zeroValue150
  g17 := by kernel_rfl
  g18 := by kernel_rfl
  g19 := by kernel_rfl
  i0 := by kernel_rfl
  i2 := by kernel_rfl
  i3 := by kernel_rfl
  i4 := by kernel_rfl
  i5 := by kernel_rfl
  i9 := by kernel_rfl
  i20 := by kernel_rfl
  i37 := by kernel_rfl
  i46 := by kernel_rfl
  i51 := by kernel_rfl
  i53 := by kernel_rfl
  i171 := by kernel_rfl
  i173 := by kernel_rfl
  i212 := by kernel_rfl
  i232 := by kernel_rfl
  i233 := by kernel_rfl
  m17 := by kernel_rfl
  m18 := by kernel_rfl
  m19 := by kernel_rfl }
open Go.RowKit Go.Sort Go.Lib in
theorem Tryz.strconv_Itoa (n : Int) (h0 : -9223372036854775808 ≤ n) (h1 : n ≤ 9223372036854775807) (w : World) (htab : Lib.TabIs Tryz.prog w "internal/strconv.uint64pow10" .u64 Lib.pow10Tab) :
    Calls Tryz.prog 44 #[.int .i64 n] w fun e w' => e = .returned (.string ⟨(Lib.itoa n).toArray⟩) ∧ ∃ k os, w' = grow (w.drewN k) os := Any.strconv_Itoa Tryz.laysM171 n h0 h1 w htab
def Tryz.lays189_ren : Go.Shelf.Ren := ⟨fun | 189 => 23 | 125 => 39 | 257 => 38 | 128 => 61 | 129 => 62 | 294 => 52 | 295 => 53 | 296 => 54 | 297 => 55 | 298 => 56 | 299 => 57 | 216 => 58 | 300 => 59 | 301 => 60 | 328 => 75 | 329 => 76 | 330 => 77 | 331 => 78 | 332 => 79 | 215 => 80 | 343 => 89 | n => n, fun | 28 => 27 | 3 => 3 | 46 => 72 | 0 => 0 | 51 => 92 | 53 => 94 | 4 => 4 | 183 => 85 | 182 => 84 | 131 => 89 | 5 => 5 | 9 => 9 | 218 => 112 | 222 => 116 | 228 => 126 | 229 => 127 | n => n, fun | n => n⟩
theorem Tryz.lays189 : Go.Proofs.Lays.n189 Tryz.prog Tryz.lays189_ren := {
  mixed := by kernel_rfl
  f125 := Tryz.func39.trans (congrArg some (by kernel_rfl))
  f128 := Tryz.func61.trans (congrArg some (by kernel_rfl))
  f129 := Tryz.func62.trans (congrArg some (by kernel_rfl))
  f189 := Tryz.func23.trans (congrArg some (by kernel_rfl))
  f215 := Tryz.func80.trans (congrArg some (by kernel_rfl))
  f216 := Tryz.func58.trans (congrArg some (by kernel_rfl))
  f257 := Tryz.func38.trans (congrArg some (by kernel_rfl))
  f294 := Tryz.func52.trans (congrArg some (by kernel_rfl))
  f295 := Tryz.func53.trans (congrArg some (by kernel_rfl))
  f296 := Tryz.func54.trans (congrArg some (by kernel_rfl))
  f297 := Tryz.func55.trans (congrArg some (by kernel_rfl))
  f298 := Tryz.func56.trans (congrArg some (by kernel_rfl))
  f299 := Tryz.func57.trans (congrArg some (by kernel_rfl))
  f300 := Tryz.func59.trans (congrArg some (by kernel_rfl))
  f301 := Tryz.func60.trans (congrArg some (by kernel_rfl))
  f328 := Tryz.func75.trans (congrArg some (by kernel_rfl))
  f329 := Tryz.func76.trans (congrArg some (by kernel_rfl))
  f330 := Tryz.func77.trans (congrArg some (by kernel_rfl))
  f331 := Tryz.func78.trans (congrArg some (by kernel_rfl))
  f332 := Tryz.func79.trans (congrArg some (by kernel_rfl))
  f343 := Tryz.func89.trans (congrArg some (by kernel_rfl))
  t0 := Tryz.underlying0
  a0 := Tryz.isAgg0
  z0 := Tryz.sizeOf0
  v0 := Tryz.zeroValue0
  t3 := Tryz.underlying3
  a3 := Tryz.isAgg3
  z3 := Tryz.sizeOf3
  v3 := Tryz.zeroValue3
  t4 := Tryz.underlying4
  a4 := Tryz.isAgg4
  z4 := Tryz.sizeOf4
  v4 := Tryz.zeroValue4
  t5 := Tryz.underlying5
  a5 := Tryz.isAgg5
  z5 := Tryz.sizeOf5
  v5 := Tryz.zeroValue5
  t9 := Tryz.underlying9
  a9 := Tryz.isAgg9
  z9 := Tryz.sizeOf9
  v9 := Tryz.zeroValue9
  t28 := Tryz.underlying27
  a28 := Tryz.isAgg27
  z28 := Tryz.sizeOf27
  v28 := Tryz.zeroValue27
  t46 := Tryz.underlying72
  a46 := Tryz.isAgg72
  z46 := Tryz.sizeOf72
  v46 := Tryz.zeroValue72
  t51 := Tryz.underlying92
  a51 := Tryz.isAgg92
  z51 := Tryz.sizeOf92
  v51 := Tryz.zeroValue92
  t53 := Tryz.underlying94
  a53 := Tryz.isAgg94
  z53 := Tryz.sizeOf94
  v53 := Tryz.zeroValue94
  t131 := Tryz.underlying89
  a131 := Tryz.isAgg89
  z131 := Tryz.sizeOf89
  v131 := Tryz.zeroValue89
  t182 := Tryz.underlying84
  a182 := Tryz.isAgg84
  z182 := Tryz.sizeOf84
  v182 := Tryz.zeroValue84
  t183 := Tryz.underlying85
  a183 := Tryz.isAgg85
  z183 := Tryz.sizeOf85
  v183 := Tryz.zeroValue85
  t218 := Tryz.underlying112
  a218 := Tryz.isAgg112
  z218 := Tryz.sizeOf112
  v218 := Tryz.zeroValue112
  t222 := Tryz.underlying116
  a222 := Tryz.isAgg116
  z222 := Tryz.sizeOf116
  v222 := Tryz.zeroValue116
  t228 := Tryz.underlying126
  a228 := Tryz.isAgg126
  z228 := Tryz.sizeOf126
  v228 := Tryz.zeroValue126
  t229 := Tryz.underlying127
  a229 := Tryz.isAgg127
  z229 := Tryz.sizeOf127
  v229 := Tryz.zeroValue127 }
open Go.Sort Go.RowKit in
theorem Tryz.slices_Sort_int (blk off cap : Nat) (zs : List Int) (w : World) (hH : Holds (Value.int .i64) w blk off zs.toArray) (hblk : blk < w.heap.size) (hsz : zs.length < 4611686018427387904) :
    Calls Tryz.prog 23 #[.slice (some ⟨blk, off, none⟩) zs.length cap] w fun e w' =>
      e = .returned (.tuple #[]) ∧ ∃ n os, w' = grow (putRow (Value.int .i64) (Sort.ahead w n) blk off (zs.mergeSort fun x y => decide (x ≤ y)).toArray) os := Any.slices_Sort_int Tryz.lays189 blk off cap zs w hH hblk hsz
def Tryz.laysGw17_ren : Go.Shelf.Ren := ⟨fun | 17 => 64 | 15 => 81 | 20 => 90 | n => n, fun | 9 => 9 | 23 => 95 | 4 => 4 | 3 => 3 | 0 => 0 | 21 => 21 | n => n, fun | n => n⟩
theorem Tryz.laysGw17 : Go.Proofs.LaysGw.n17 Tryz.prog Tryz.laysGw17_ren := {
  mixed := by kernel_rfl
  f15 := Tryz.func81.trans (congrArg some (by kernel_rfl))
  f17 := Tryz.func64.trans (congrArg some (by kernel_rfl))
  f20 := Tryz.func90.trans (congrArg some (by kernel_rfl))
  t0 := Tryz.underlying0
  a0 := Tryz.isAgg0
  z0 := Tryz.sizeOf0
  v0 := Tryz.zeroValue0
  i0 := by kernel_rfl
  t3 := Tryz.underlying3
  a3 := Tryz.isAgg3
  z3 := Tryz.sizeOf3
  v3 := Tryz.zeroValue3
  i3 := by kernel_rfl
  t4 := Tryz.underlying4
  a4 := Tryz.isAgg4
  z4 := Tryz.sizeOf4
  v4 := Tryz.zeroValue4
  i4 := by kernel_rfl
  t9 := Tryz.underlying9
  a9 := Tryz.isAgg9
  z9 := Tryz.sizeOf9
  v9 := Tryz.zeroValue9
  i9 := by kernel_rfl
  t21 := Tryz.underlying21
  a21 := Tryz.isAgg21
  z21 := Tryz.sizeOf21
  v21 := Tryz.zeroValue21
  i21 := by kernel_rfl
  t23 := Tryz.underlying95
  a23 := Tryz.isAgg95
  z23 := Tryz.sizeOf95
  v23 := Tryz.zeroValue95
  i23 := by kernel_rfl }
open Go.RowKit Go.Lib in
theorem Tryz.strings_ContainsFunc_grows (g : Nat) (lb : Array Value) (eg : ∀ args w, (callFunc g args).run Tryz.prog w = .ok (.enter g args) w) (p : Nat → Bool) (s : ByteArray) (w : World) (hp : PredGrows Tryz.prog g lb p w) :
    Calls Tryz.prog 64 #[.string s, .func (.func g) #[] lb] w fun e w' => e = .returned (.bool (decide (0 ≤ Lib.idxFunc p true s))) ∧ Below w.heap.size w w' := Any.strings_ContainsFunc_grows Tryz.laysGw17 g lb eg p s w hp
def Tryz.laysNm220_ren : Go.Shelf.Ren := ⟨fun | 20 => 24 | n => n, fun | 22 => 27 | 3 => 3 | 4 => 4 | 0 => 0 | n => n, fun | n => n⟩
theorem Tryz.laysNm220 : Go.Proofs.Lays2.n20 Tryz.prog Tryz.laysNm220_ren := {
  mixed := by kernel_rfl
  f20 := Tryz.func24.trans (congrArg some (by kernel_rfl))
  t0 := Tryz.underlying0
  a0 := Tryz.isAgg0
  z0 := Tryz.sizeOf0
  v0 := Tryz.zeroValue0
  t3 := Tryz.underlying3
  a3 := Tryz.isAgg3
  z3 := Tryz.sizeOf3
  v3 := Tryz.zeroValue3
  t4 := Tryz.underlying4
  a4 := Tryz.isAgg4
  z4 := Tryz.sizeOf4
  v4 := Tryz.zeroValue4
  t22 := Tryz.underlying27
  a22 := Tryz.isAgg27
  z22 := Tryz.sizeOf27
  v22 := Tryz.zeroValue27
  i3 := by kernel_rfl }
open Go.RowKit Go.Lib Go.Sort in
theorem Tryz.slices_Compact_int (blk off cap : Nat) (zs : List Int) (w : World) (hH : Holds (Value.int .i64) w blk off zs.toArray) (hsz : zs.length ≤ 9223372036854775807) (hcap : zs.length ≤ cap) :
    Calls Tryz.prog 24 #[.slice (some ⟨blk, off, none⟩) zs.length cap] w fun e w' => e = .returned (.slice (some ⟨blk, off, none⟩) (Lib.compact zs).length cap) ∧ ∃ q, w' = putRow (Value.int .i64) (Sort.ahead w q) blk off (Lib.compact zs ++ List.replicate (zs.length - (Lib.compact zs).length) 0).toArray := Any.slices_Compact_int Tryz.laysNm220 blk off cap zs w hH hsz hcap
open Go.RowKit Go.Lib Go.Sort in
theorem Tryz.slices_Compact_int_empty (a : Option Addr) (cap : Nat) (w : World) :
    Calls Tryz.prog 24 #[.slice a 0 cap] w fun e w' => e = .returned (.slice a 0 cap) ∧ w' = w := Any.slices_Compact_int_empty Tryz.laysNm220 a cap w
open Go.RowKit Go.Sort in
theorem Tryz.slices_Sort_int_none (p : Option Addr) (cap : Nat) (w : World) :
    Calls Tryz.prog 23 #[.slice p 0 cap] w fun e w' => e = .returned (.tuple #[]) ∧ w' = w := Any.slices_Sort_int_none Tryz.lays189 p cap w
def Tryz.laysSF_ren : Go.Shelf.Ren := ⟨fun | 6 => 72 | 15 => 39 | 14 => 87 | 28 => 61 | 29 => 62 | 20 => 97 | 21 => 98 | 22 => 99 | 23 => 100 | 24 => 101 | 25 => 102 | 26 => 103 | 27 => 104 | 46 => 109 | 47 => 76 | 48 => 77 | 49 => 110 | 50 => 111 | 57 => 114 | n => n, fun | 22 => 24 | 24 => 29 | 25 => 45 | 3 => 3 | 39 => 72 | 0 => 0 | 53 => 92 | 55 => 94 | 4 => 4 | 46 => 85 | 45 => 84 | 50 => 89 | 5 => 5 | 9 => 9 | 66 => 112 | 70 => 116 | 76 => 126 | 77 => 127 | n => n, fun | n => n⟩
theorem Tryz.laysSF : Go.Proofs.SlLaysF0.n6 Tryz.prog Tryz.laysSF_ren := {
  mixed := by kernel_rfl
  f6 := ⟨Tryz.f72.name, by decide, Tryz.func72.trans (congrArg some (by kernel_rfl))⟩
  f14 := ⟨Tryz.f87.name, by decide, Tryz.func87.trans (congrArg some (by kernel_rfl))⟩
  f15 := Tryz.func39.trans (congrArg some (by kernel_rfl))
  f20 := ⟨Tryz.f97.name, by decide, Tryz.func97.trans (congrArg some (by kernel_rfl))⟩
  f21 := ⟨Tryz.f98.name, by decide, Tryz.func98.trans (congrArg some (by kernel_rfl))⟩
  f22 := ⟨Tryz.f99.name, by decide, Tryz.func99.trans (congrArg some (by kernel_rfl))⟩
  f23 := ⟨Tryz.f100.name, by decide, Tryz.func100.trans (congrArg some (by kernel_rfl))⟩
  f24 := ⟨Tryz.f101.name, by decide, Tryz.func101.trans (congrArg some (by kernel_rfl))⟩
  f25 := ⟨Tryz.f102.name, by decide, Tryz.func102.trans (congrArg some (by kernel_rfl))⟩
  f26 := ⟨Tryz.f103.name, by decide, Tryz.func103.trans (congrArg some (by kernel_rfl))⟩
  f27 := ⟨Tryz.f104.name, by decide, Tryz.func104.trans (congrArg some (by kernel_rfl))⟩
  f28 := Tryz.func61.trans (congrArg some (by kernel_rfl))
  f29 := Tryz.func62.trans (congrArg some (by kernel_rfl))
  f46 := ⟨Tryz.f109.name, by decide, Tryz.func109.trans (congrArg some (by kernel_rfl))⟩
  f47 := Tryz.func76.trans (congrArg some (by kernel_rfl))
  f48 := Tryz.func77.trans (congrArg some (by kernel_rfl))
  f49 := ⟨Tryz.f110.name, by decide, Tryz.func110.trans (congrArg some (by kernel_rfl))⟩
  f50 := ⟨Tryz.f111.name, by decide, Tryz.func111.trans (congrArg some (by kernel_rfl))⟩
  f57 := ⟨Tryz.f114.name, by decide, Tryz.func114.trans (congrArg some (by kernel_rfl))⟩
  t0 := Tryz.underlying0
  a0 := Tryz.isAgg0
  z0 := Tryz.sizeOf0
  v0 := Tryz.zeroValue0
  t3 := Tryz.underlying3
  a3 := Tryz.isAgg3
  z3 := Tryz.sizeOf3
  v3 := Tryz.zeroValue3
  t4 := Tryz.underlying4
  a4 := Tryz.isAgg4
  z4 := Tryz.sizeOf4
  v4 := Tryz.zeroValue4
  t5 := Tryz.underlying5
  a5 := Tryz.isAgg5
  z5 := Tryz.sizeOf5
  v5 := Tryz.zeroValue5
  t9 := Tryz.underlying9
  a9 := Tryz.isAgg9
  z9 := Tryz.sizeOf9
  v9 := Tryz.zeroValue9
  t22 := Tryz.underlying24
  a22 := Tryz.isAgg24
  z22 := Tryz.sizeOf24
  v22 := Tryz.zeroValue24
  t25 := Tryz.underlying45
  a25 := Tryz.isAgg45
  z25 := Tryz.sizeOf45
  v25 := Tryz.zeroValue45
  t39 := Tryz.underlying72
  a39 := Tryz.isAgg72
  z39 := Tryz.sizeOf72
  v39 := Tryz.zeroValue72
  t45 := Tryz.underlying84
  a45 := Tryz.isAgg84
  z45 := Tryz.sizeOf84
  v45 := Tryz.zeroValue84
  t46 := Tryz.underlying85
  a46 := Tryz.isAgg85
  z46 := Tryz.sizeOf85
  v46 := Tryz.zeroValue85
  t50 := Tryz.underlying89
  a50 := Tryz.isAgg89
  z50 := Tryz.sizeOf89
  v50 := Tryz.zeroValue89
  t53 := Tryz.underlying92
  a53 := Tryz.isAgg92
  z53 := Tryz.sizeOf92
  v53 := Tryz.zeroValue92
  t55 := Tryz.underlying94
  a55 := Tryz.isAgg94
  z55 := Tryz.sizeOf94
  v55 := Tryz.zeroValue94
  t66 := Tryz.underlying112
  a66 := Tryz.isAgg112
  z66 := Tryz.sizeOf112
  v66 := Tryz.zeroValue112
  t70 := Tryz.underlying116
  a70 := Tryz.isAgg116
  z70 := Tryz.sizeOf116
  v70 := Tryz.zeroValue116
  t76 := Tryz.underlying126
  a76 := Tryz.isAgg126
  z76 := Tryz.sizeOf126
  v76 := Tryz.zeroValue126
  t77 := Tryz.underlying127
  a77 := Tryz.isAgg127
  z77 := Tryz.sizeOf127
  v77 := Tryz.zeroValue127 }
end Go.Proofs

namespace Go.PF
open Go.RowKit
theorem SL.getT {F : Nat → Prop} {w : World} {ad : Addr} {n cap : Nat} {l : List ByteArray} (h : SL strT F w (.slice (some ad) n cap) l) {i : Nat} {x : ByteArray} (hx : l[i]? = some x) : w.cell? (ad.add ((i : Int).toNat * 1)) = some (.string x) := by
  obtain ⟨ad', cs, h1, _, ⟨rfl, _⟩, hc⟩ := h.at hx
  cases h1
  have := hc 0 (.string x) rfl
  simpa [strT, Addr.add] using this
theorem SL.sizeT {F : Nat → Prop} {w : World} {v : Value} {l : List ByteArray} (h : SL strT F w v l) : ∀ x ∈ l, x.size ≤ 9223372036854775807 := fun x hx => by
  obtain ⟨A, cap, _, _, _, h3⟩ := h
  obtain ⟨i, hi, he⟩ := List.getElem_of_mem hx
  obtain ⟨_, _, _, _, _, hr⟩ := h3 i x (by rw [← he]; exact List.getElem?_eq_getElem hi)
  exact hr.2
end Go.PF
namespace Go.Proofs.YthjcgmjcpmodlaaGreatDoor
open Go.PF Go.RowKit Go.Ord

theorem listB (a b : ByteArray) : (a.toList == b.toList) = true ↔ a = b := by
  rw [beq_iff_eq]
  constructor
  · intro h
    rw [ByteArray.toList_eq, ByteArray.toList_eq] at h
    exact ByteArray.ext (Array.ext' h)
  · rintro rfl; rfl
noncomputable def sK : GKey Tryz.prog 9 ByteArray := nowKey (strKey Tryz.prog 9 Tryz.underlying9) (fun a b => listB a b)
theorem beqL (a b : ByteArray) : (a.toList == b.toList) = decide (a = b) := by
  by_cases h : a = b
  · rw [(listB a b).2 h, decide_eq_true h]
  · rw [decide_eq_false h]
    cases h' : (a.toList == b.toList) with
    | true => exact absurd ((listB a b).1 h') h
    | false => rfl

theorem isLabel1_c {w : World} {x : Nat} : Gives Tryz.prog 63 #[.int .i32 (x : Int)] w fun u w' => Below w.heap.size w w' ∧ u = .bool (othR x) := by
  refine gives_of (vs := [.int .i32 (x : Int)]) [(0, none, _)] Tryz.func63 rfl Tryz.ntmps63 rfl rfl ?_
  refine CW.seq (CW.region ?_)
  refine TW.assign rfl rfl rfl ct ?_
  refine TW.nil (KW.pick [0, 2] [(0, _, _), (2, _, _)] rfl (KW.then_ ?_))
  refine CW.seq (CW.region ?_)
  refine TW.move rfl rfl rfl ct ?_
  refine TW.lss rfl rfl rfl ct rfl ct ?_
  refine TW.move rfl rfl rfl ct ?_
  refine TW.move rfl rfl rfl ct ?_
  refine TW.gtr rfl rfl rfl id rfl ct ?_
  refine TW.pickOr rfl rfl rfl ct rfl pOr0 ?_
  refine TW.move rfl rfl rfl ct ?_
  refine TW.move rfl rfl rfl ct ?_
  refine TW.lss rfl rfl rfl id rfl ct ?_
  refine TW.move rfl rfl rfl id ?_
  refine TW.move rfl rfl rfl ct ?_
  refine TW.gtr rfl rfl rfl id rfl ct ?_
  refine TW.pickOr rfl rfl rfl id rfl pOr1 ?_
  refine TW.pickAnd rfl rfl rfl ct rfl pAnd0 ?_
  refine TW.move rfl rfl rfl ct ?_
  refine TW.move rfl rfl rfl ct ?_
  refine TW.neq rfl rfl rfl id rfl ct ?_
  refine TW.pickAnd rfl rfl rfl ct rfl pAnd0 ?_
  refine TW.assign rfl rfl rfl ct ?_
  refine TW.nil (KW.pick [0, 2] [(0, _, _), (2, _, _)] rfl (KW.then_ ?_))
  refine CW.ret ?_
  refine ret1 Tryz.results63 rfl (⟨Below.refl _ _, ?_⟩)
  unfold othR
  by_cases h1 : x < 65 <;> by_cases h2 : 90 < x <;> by_cases h3 : x < 48 <;> by_cases h4 : 57 < x <;> by_cases h5 : x = 46 <;> simp [h1, h2, h3, h4, h5] <;> omega

theorem containsR_c {w : World} {s : ByteArray} : Gives Tryz.prog 64 #[.string s, .func (.func 63) #[] #[]] w fun u w' => Below w.heap.size w w' ∧ u = .bool (!dec (∀ i, i < s.size → okB (byteAt s i))) := by
  refine Calls.mono (Tryz.strings_ContainsFunc_grows 63 #[] (fun args w => run_enters en63 args w) othR s w fun W x _ _ => Calls.mono (isLabel1_c (w := W) (x := x)) ?_) ?_
  · rintro e w' ⟨u, rfl, h1, rfl⟩
    exact ⟨rfl, h1⟩
  · rintro e w' ⟨rfl, h⟩
    exact ⟨_, rfl, h, by rw [lab_idx]⟩

theorem isLabel_c {w : World} {s : ByteArray} : Gives Tryz.prog 41 #[.string s] w fun u w' => Below w.heap.size w w' ∧ u = .bool (dec (isLab s)) := by
  refine gives_of (vs := [.string s]) [(0, none, _)] Tryz.func41 rfl Tryz.ntmps41 rfl rfl ?_
  refine CW.seq (CW.region ?_)
  refine TW.assign rfl rfl rfl ct ?_
  refine TW.nil (KW.pick [0, 2] [(0, _, _), (2, _, _)] rfl (KW.then_ ?_))
  refine CW.seq (CW.seq (CW.region ?_))
  refine TW.move rfl rfl rfl ct ?_
  refine TW.lenString rfl rfl Tryz.underlying9 rfl ct ?_
  refine TW.lss rfl rfl rfl ct rfl ct ?_
  refine TW.move rfl rfl rfl ct ?_
  refine TW.move rfl rfl rfl ct ?_
  refine TW.lenString rfl rfl Tryz.underlying9 rfl id ?_
  refine TW.gtr rfl rfl rfl id rfl ct ?_
  refine TW.pickOr rfl rfl rfl ct rfl pOr0 ?_
  refine TW.nil (KW.pick [0, 2, 11] [(0, _, _), (2, _, _), (11, _, _)] rfl (KW.then_ ?_))
  refine CW.cond rfl (fun hbad => ?_) (fun hgood => ?_)
  · refine CW.seq (CW.region ?_)
    refine TW.assign rfl rfl rfl ct ?_
    refine TW.nil (KW.pick [0, 2] [(0, _, _), (2, _, _)] rfl (KW.then_ ?_))
    refine CW.ret (KW.thenR ?_)
    refine ret1 Tryz.results41 rfl (⟨Below.refl _ _, ?_⟩)
    rw [dec_neg fun h => ?_]
    have h1 := h.1
    have h2 := h.2.1
    simp at hbad
    omega
  have hs : 1 ≤ s.size ∧ s.size ≤ 20 := by simp at hgood; omega
  refine CW.skip (KW.then_ (CW.seq (CW.region ?_)))
  refine TW.assign rfl rfl rfl ct ?_
  refine TW.nil (KW.pick [0, 2, 3] [(0, _, _), (2, _, _), (3, _, _)] rfl (KW.then_ ?_))
  refine CW.seq (CW.region ?_)
  refine TW.move rfl rfl rfl ct ?_
  refine TW.move rfl rfl rfl ct ?_
  refine TW.call0 (cap := []) rfl rfl en64 rfl (Args.cons rfl ct (Args.cons rfl ct Args.nil)) (containsR_c) ?_
  rintro y w1 ⟨c1, rfl⟩
  refine TW.not rfl rfl rfl ct ?_
  refine TW.assign rfl rfl rfl ct ?_
  refine TW.nil (KW.pick [0, 2, 3] [(0, _, _), (2, _, _), (3, _, _)] rfl (KW.then_ ?_))
  refine CW.ret ?_
  refine ret1 Tryz.results41 rfl (⟨c1, ?_⟩)
  by_cases h : ∀ i, i < s.size → okB (byteAt s i)
  · rw [dec_pos h, dec_pos ⟨hs.1, hs.2, h⟩]; rfl
  · rw [dec_neg h, dec_neg fun h' => h h'.2.2]; rfl

/-! ### a search whose question has a state -/
theorem indexT_c {w : World} {v : Value} {l : List ByteArray} {F : Nat → Prop} {k : FuncId} {caps : List Value} (J : List ByteArray → World → Prop) (Jx : World → Prop) (hl : ∀ pre W, J pre W → SL strT F W v l) (hk : enters Tryz.prog k = true) (h0 : J [] w)
    (hp : ∀ pre x suf W, l = pre ++ x :: suf → J pre W → Gives Tryz.prog k (.string x :: caps).toArray W fun u W' => ∃ b, u = .bool b ∧ (b = true → Jx W') ∧ (b = false → J (pre ++ [x]) W')) :
    Gives Tryz.prog 82 #[v, .func (.func k) #[] caps.toArray] w fun u w' => (u = .int .i64 (-1) ∧ J l w') ∨ ∃ i : Nat, u = .int .i64 (i : Int) ∧ Jx w' := by
  obtain ⟨A, cap, rfl, _⟩ := (hl _ _ h0).form
  have hmax := (hl _ _ h0).len.2.2
  refine gives_of (vs := [.slice A l.length cap, .func (.func k) #[] caps.toArray]) [(0, none, _), (1, none, _)] Tryz.func82 rfl Tryz.ntmps82 rfl rfl ?_
  refine CW.seq (CW.region ?_)
  refine TW.assign rfl rfl rfl ct ?_
  refine TW.nil (KW.pick [0, 1, 4] [(0, _, _), (1, _, _), (4, _, _)] rfl (KW.then_ ?_))
  refine CW.seq (CW.seq (CW.region ?_))
  refine TW.move rfl rfl rfl ct ?_
  refine TW.lenSlice rfl rfl Tryz.underlying35 rfl ct ?_
  refine TW.move rfl rfl rfl ct ?_
  refine TW.nil (KW.pick [0, 1, 4, 7, 8] [(0, _, _), (1, _, _), (4, _, _), (7, _, _), (8, _, _)] rfl (KW.then_ ?_))
  refine CW.block ?_
  refine CW.loopS (fun i : Nat => [(0, none, .slice A l.length cap), (1, none, .func (.func k) #[] caps.toArray), (7, none, .int .i64 (l.length : Int)), (8, none, .int .i64 (i : Int))])
    (fun i W => i ≤ l.length ∧ J (l.take i) W) (fun i => l.length - i) 0 [0, 1, 7, 8] ⟨by omega, h0⟩ rfl ?_
  rintro i W ⟨hi, hJ⟩
  refine CW.seq (CW.region ?_)
  refine TW.lss rfl rfl rfl ct rfl ct ?_
  refine TW.nil (KW.pick [0, 1, 7, 8, 9] [(0, _, _), (1, _, _), (7, _, _), (8, _, _), (9, _, _)] rfl (KW.then_ ?_))
  refine CW.seq ?_
  refine CW.condP rfl (fun hlt => ?_) (fun hge => ?_)
  · obtain ⟨x, hx, hxm⟩ := getx (l := l) (k := i) (by omega)
    have hlW := hl _ _ hJ
    obtain ⟨ad, rfl⟩ := hlW.addr (by omega)
    obtain ⟨hil, hie⟩ := List.getElem?_eq_some_iff.1 hx
    have hcut : l = l.take i ++ x :: l.drop (i + 1) := by rw [← hie, ← List.drop_eq_getElem_cons hil, List.take_append_drop]
    refine CW.skip (KW.then_ (CW.seq (CW.block (CW.seq (CW.region ?_)))))
    refine TW.move rfl rfl rfl ct ?_
    refine TW.assign rfl rfl rfl ct ?_
    refine TW.nil (KW.pick [0, 1, 5, 7, 8] [(0, _, _), (1, _, _), (5, _, _), (7, _, _), (8, _, _)] rfl (KW.then_ ?_))
    refine CW.seq (CW.region ?_)
    refine TW.move rfl rfl rfl ct ?_
    refine TW.move rfl rfl rfl ct ?_
    refine TW.move rfl rfl rfl ct ?_
    refine TW.indexAddr rfl rfl Tryz.underlying35 sz9 rfl ct rfl ct (fun _ => by (try dsimp only); omega) ?_
    refine TW.load rfl rfl one9 rfl ct (fun _ => hlW.getT hx) ?_
    refine TW.call0 rfl rfl hk rfl (Args.cons rfl ct Args.nil) (hp (l.take i) x (l.drop (i + 1)) W hcut hJ) ?_
    rintro u w1 ⟨b, rfl, hb1, hb2⟩
    refine TW.nil (KW.pick [0, 1, 5, 7, 8, 16] [(0, _, _), (1, _, _), (5, _, _), (7, _, _), (8, _, _), (16, _, _)] rfl (KW.then_ ?_))
    refine CW.cond rfl (fun hyes => ?_) (fun hno => ?_)
    · refine CW.seq (CW.region ?_)
      refine TW.move rfl rfl rfl ct ?_
      refine TW.assign rfl rfl rfl ct ?_
      refine TW.nil (KW.pick [0, 1, 4, 5, 7, 8] [(0, _, _), (1, _, _), (4, _, _), (5, _, _), (7, _, _), (8, _, _)] rfl (KW.then_ ?_))
      refine CW.ret (KW.blockR (KW.thenR (KW.thenR (KW.blockR (KW.thenR ?_)))))
      refine ret1 Tryz.results82 rfl (.inr ⟨i, rfl, hb1 hyes⟩)
    · refine CW.skip (KW.blockN (KW.then_ (CW.region ?_)))
      refine TW.add rfl rfl rfl ct rfl ct (fun _ => by (try dsimp only); omega) ?_
      refine TW.move rfl rfl rfl ct ?_
      refine TW.nil (KW.pick [0, 1, 5, 7, 8] [(0, _, _), (1, _, _), (5, _, _), (7, _, _), (8, _, _)] rfl ?_)
      refine KW.round (i + 1) [0, 1, 7, 8] rfl ⟨by omega, ?_⟩ (by omega)
      have : l.take (i + 1) = l.take i ++ [x] := by rw [List.take_add_one, hx]; rfl
      rw [this]
      exact hb2 hno
  · have hie : i = l.length := by omega
    subst hie
    rw [List.take_length] at hJ
    refine CW.exit (KW.thenX (KW.thenX (KW.blockX (KW.then_ (CW.seq (CW.region ?_))))))
    refine TW.assign rfl rfl rfl ct ?_
    refine TW.nil (KW.pick [0, 1, 4, 7, 8] [(0, _, _), (1, _, _), (4, _, _), (7, _, _), (8, _, _)] rfl (KW.then_ ?_))
    refine CW.ret ?_
    refine ret1 Tryz.results82 rfl (.inl ⟨rfl, hJ⟩)

theorem containsT_c {w : World} {v : Value} {l : List ByteArray} {F : Nat → Prop} {k : FuncId} {caps : List Value} (J : List ByteArray → World → Prop) (Jx : World → Prop) (hl : ∀ pre W, J pre W → SL strT F W v l) (hk : enters Tryz.prog k = true) (h0 : J [] w)
    (hp : ∀ pre x suf W, l = pre ++ x :: suf → J pre W → Gives Tryz.prog k (.string x :: caps).toArray W fun u W' => ∃ b, u = .bool b ∧ (b = true → Jx W') ∧ (b = false → J (pre ++ [x]) W')) :
    Gives Tryz.prog 65 #[v, .func (.func k) #[] caps.toArray] w fun u w' => (u = .bool false ∧ J l w') ∨ (u = .bool true ∧ Jx w') := by
  refine gives_of (vs := [v, .func (.func k) #[] caps.toArray]) [(0, none, _), (1, none, _)] Tryz.func65 rfl Tryz.ntmps65 rfl rfl ?_
  refine CW.seq (CW.region ?_)
  refine TW.assign rfl rfl rfl ct ?_
  refine TW.nil (KW.pick [0, 1, 4] [(0, _, _), (1, _, _), (4, _, _)] rfl (KW.then_ ?_))
  refine CW.seq (CW.region ?_)
  refine TW.move rfl rfl rfl ct ?_
  refine TW.move rfl rfl rfl ct ?_
  refine TW.call0 (cap := []) rfl rfl en82 rfl (Args.cons rfl ct (Args.cons rfl ct Args.nil)) (indexT_c J Jx hl hk h0 hp) ?_
  rintro u w1 h1
  rcases h1 with ⟨rfl, h1⟩ | ⟨i, rfl, h1⟩
  · skip
    refine TW.geq rfl rfl rfl ct rfl ct ?_
    refine TW.assign rfl rfl rfl ct ?_
    refine TW.nil (KW.pick [0, 1, 4] [(0, _, _), (1, _, _), (4, _, _)] rfl (KW.then_ ?_))
    refine CW.ret ?_
    refine ret1 Tryz.results65 rfl (.inl ⟨by rw [decide_eq_false (by omega)], h1⟩)
  · skip
    refine TW.geq rfl rfl rfl ct rfl ct ?_
    refine TW.assign rfl rfl rfl ct ?_
    refine TW.nil (KW.pick [0, 1, 4] [(0, _, _), (1, _, _), (4, _, _)] rfl (KW.then_ ?_))
    refine CW.ret ?_
    refine ret1 Tryz.results65 rfl (.inr ⟨by rw [decide_eq_true (by omega)], h1⟩)

/-! ### different labels -/
def SeenIs (w : World) (b : Nat) (ys : List ByteArray) : Prop := ∃ m, MapL sK w b m ∧ (∀ y, (∃ v, (y, v) ∈ m) ↔ y ∈ ys) ∧ ∀ p ∈ m, p.2 = .bool true
theorem SeenIs.put {w' : World} {b : Nat} {ys : List ByteArray} {m : List (ByteArray × Value)} (x : ByteArray) (hm : ∀ y, (∃ v, (y, v) ∈ m) ↔ y ∈ ys) (ht : ∀ p ∈ m, p.2 = .bool true) (h : MapL sK w' b (lput m x (.bool true))) : SeenIs w' b (ys ++ [x]) := by
  refine ⟨_, h, fun y => ?_, fun p hp => ?_⟩
  · rw [List.mem_append, List.mem_singleton]
    constructor
    · rintro ⟨v, hv⟩
      rcases mem_lput.1 hv with e | ⟨h1, _⟩
      · cases e; exact .inr rfl
      · exact .inl ((hm y).1 ⟨v, h1⟩)
    · intro hy
      by_cases e : y = x
      · subst e; exact ⟨_, mem_lput.2 (.inl rfl)⟩
      · obtain ⟨v, hv⟩ := (hm y).2 (hy.resolve_right e)
        exact ⟨v, mem_lput.2 (.inr ⟨hv, e⟩)⟩
  · rcases mem_lput.1 hp with e | ⟨h1, _⟩
    · rw [e]
    · exact ht p h1

set_option maxRecDepth 20000 in
theorem different1_c {w : World} {g b : Nat} {ys : List ByteArray} {x : ByteArray} (hg : Blk w g 97 [.map (some b)]) (hS : SeenIs w b ys) :
    Gives Tryz.prog 66 #[.string x, .pointer (some ⟨g, 0, none⟩)] w fun u w' => ∃ q, u = .bool q ∧ But b w w' ∧ w.heap.size ≤ w'.heap.size ∧ (q = true → ¬ (isLab x ∧ x ∉ ys)) ∧ (q = false → (isLab x ∧ x ∉ ys) ∧ SeenIs w' b (ys ++ [x])) := by
  obtain ⟨m, hm, hin, ht⟩ := hS
  refine gives_of (vs := [.string x, .pointer (some ⟨g, 0, none⟩)]) [(0, none, _), (1, none, _)] Tryz.func66 rfl Tryz.ntmps66 rfl rfl ?_
  refine CW.seq (CW.region ?_)
  refine TW.assign rfl rfl rfl ct ?_
  refine TW.nil (KW.pick [0, 1, 3] [(0, _, _), (1, _, _), (3, _, _)] rfl (KW.then_ ?_))
  refine CW.seq (CW.seq (CW.region ?_))
  refine TW.move rfl rfl rfl ct ?_
  refine TW.call0 (cap := []) rfl rfl en41 rfl (Args.cons rfl ct Args.nil) (isLabel_c) ?_
  rintro y w1 ⟨c1, rfl⟩
  have hg1 := hg.next c1
  have hm1 := hm.below c1
  refine TW.not rfl rfl rfl ct ?_
  refine TW.move rfl rfl rfl ct ?_
  by_cases hlab : isLab x
  · rw [dec_pos hlab]
    refine TW.known rfl rfl ?_
    refine TW.load rfl rfl one97 rfl ct (fun _ => hg1.cell 0) ?_
    refine TW.known rfl rfl ?_
    refine TW.move rfl rfl rfl ct ?_
    refine TW.known rfl rfl ?_
    refine TW.lookup1 sK x rfl rfl Tryz.underlying97 ze4 rfl rfl hm1 ?_
    intro v hv
    have hv' : v = .bool (dec (x ∈ ys)) := by
      rcases hv with h | ⟨h, rfl⟩
      · rw [dec_pos ((hin x).1 ⟨v, h⟩)]
        exact ht _ h
      · rw [dec_neg fun hx => ?_]
        obtain ⟨u, hu⟩ := (hin x).2 hx
        exact h _ hu rfl
    subst hv'
    refine TW.pickOr rfl rfl rfl ct rfl pT ?_
    refine TW.nil (KW.pick [0, 1, 3, 11] [(0, _, _), (1, _, _), (3, _, _), (11, _, _)] rfl (KW.then_ ?_))
    refine CW.cond rfl (fun hyes => ?_) (fun hno => ?_)
    · have hy : x ∈ ys := dec_iff.1 hyes
      refine CW.seq (CW.region ?_)
      refine TW.assign rfl rfl rfl ct ?_
      refine TW.nil (KW.pick [0, 1, 3] [(0, _, _), (1, _, _), (3, _, _)] rfl (KW.then_ ?_))
      refine CW.ret (KW.thenR ?_)
      refine ret1 Tryz.results66 rfl (⟨true, rfl, But.of_below c1, c1.size, fun _ h => h.2 hy, fun h => (by cases h)⟩)
    · have hy : x ∉ ys := fun h => by rw [dec_pos h] at hno; simp at hno
      refine CW.skip (KW.then_ (CW.seq (CW.region ?_)))
      refine TW.load rfl rfl one97 rfl ct (fun _ => hg1.cell 0) ?_
      refine TW.move rfl rfl rfl ct ?_
      refine TW.mapUpdateL sK x rfl Tryz.underlying97 rfl rfl rfl hm1 ?_
      intro w2 hsz2 hb2 hm2
      refine TW.nil (KW.pick [0, 1, 3] [(0, _, _), (1, _, _), (3, _, _)] rfl (KW.then_ ?_))
      refine CW.seq (CW.region ?_)
      refine TW.assign rfl rfl rfl ct ?_
      refine TW.nil (KW.pick [0, 1, 3] [(0, _, _), (1, _, _), (3, _, _)] rfl (KW.then_ ?_))
      refine CW.ret ?_
      refine ret1 Tryz.results66 rfl (⟨false, rfl, (But.of_below c1).trans hb2, by have := c1.size; omega, fun h => (by cases h), fun _ => ⟨⟨hlab, hy⟩, SeenIs.put x hin ht hm2⟩⟩)
  · rw [dec_neg hlab]
    refine TW.dead (.bool false) rfl (by simp [Cnd]) rfl ?_
    refine TW.dead (.bool false) rfl (by simp [Cnd]) rfl ?_
    refine TW.dead (.bool false) rfl (by simp [Cnd]) rfl ?_
    refine TW.pickOr rfl rfl rfl ct rfl pOr0 ?_
    refine TW.nil (KW.pick [0, 1, 3, 11] [(0, _, _), (1, _, _), (3, _, _), (11, _, _)] rfl (KW.then_ ?_))
    refine CW.cond rfl (fun hyes => ?_) (fun hno => ?_)
    · refine CW.seq (CW.region ?_)
      refine TW.assign rfl rfl rfl ct ?_
      refine TW.nil (KW.pick [0, 1, 3] [(0, _, _), (1, _, _), (3, _, _)] rfl (KW.then_ ?_))
      refine CW.ret (KW.thenR ?_)
      refine ret1 Tryz.results66 rfl (⟨true, rfl, But.of_below c1, c1.size, fun _ h => hlab h.1, fun h => (by cases h)⟩)
    · exact absurd hno (by simp)
end Go.Proofs.YthjcgmjcpmodlaaGreatDoor

namespace Go.Proofs.YthjcgmjcpmodlaaGreatDoor
open Go.PF Go.RowKit Go.Ord

/-! ### well-formed records -/
set_option maxRecDepth 20000 in
theorem different_c {w : World} {v : Value} {l : List ByteArray} {x : ByteArray} {F : Nat → Prop} (hl : SL strT F w v l) :
    Gives Tryz.prog 42 #[.string x, v] w fun u w' => Below w.heap.size w w' ∧ u = .bool (dec ((∀ c ∈ l, isLab c ∧ c ≠ x) ∧ l.Nodup)) := by
  obtain ⟨A, cap, rfl, _⟩ := hl.form
  refine gives_of (vs := [.string x, .slice A l.length cap]) [(0, none, _), (1, none, _)] Tryz.func42 rfl Tryz.ntmps42 rfl rfl ?_
  refine CW.seq (CW.region ?_)
  refine TW.assign rfl rfl rfl ct ?_
  refine TW.nil (KW.pick [0, 1, 4] [(0, _, _), (1, _, _), (4, _, _)] rfl (KW.then_ ?_))
  refine CW.seq (CW.region ?_)
  refine TW.makeMapL sK rfl rfl ?_
  rintro b w1 hbw hw1 hb1 hM1
  refine TW.move rfl rfl rfl ct ?_
  refine TW.insertL sK x (vz := .bool true) rfl Tryz.underlying97 rfl rfl rfl hM1 ?_
  rintro w2 hw2 hbut2 hM2
  refine TW.move rfl rfl rfl ct ?_
  refine TW.newVar1 rfl zc97 rfl sz97 rfl ?_
  rintro g w3 f3
  refine TW.nil (KW.pick [0, 1, 4, 5] [(0, _, _), (1, _, _), (4, _, _), (5, _, _)] rfl (KW.then_ ?_))
  refine CW.seq (CW.region ?_)
  refine TW.move rfl rfl rfl ct ?_
  refine TW.makeFunc rfl rfl (Args.cons rfl ct Args.nil) ?_
  have hg3 := f3.at_
  have hbel : Below w.heap.size w w2 := But.below hb1 hbut2 (by omega)
  have hS3 : SeenIs w3 b [x] := by
    refine ⟨_, hM2.below f3.below, fun y => ?_, fun p hp => ?_⟩
    · rw [List.mem_singleton]
      constructor
      · rintro ⟨u, hu⟩
        rcases mem_lput.1 hu with e | ⟨h, _⟩
        · cases e; rfl
        · cases h
      · rintro rfl
        exact ⟨_, mem_lput.2 (.inl rfl)⟩
    · rcases mem_lput.1 hp with e | ⟨h, _⟩
      · rw [e]
      · cases h
  have hbel3 := hbel.step f3.below
  have hgb : g ≠ b := by have := hM2.lt; omega
  have hpred : ∀ (pre : List ByteArray) (y : ByteArray) (suf : List ByteArray) (W : World), l = pre ++ y :: suf → (But b w3 W ∧ w3.heap.size ≤ W.heap.size ∧ ((∀ c ∈ pre, isLab c ∧ c ≠ x) ∧ pre.Nodup) ∧ SeenIs W b ([x] ++ pre)) → Gives Tryz.prog 66 #[.string y, .pointer (some ⟨g, 0, none⟩)] W fun u W' => ∃ q, u = .bool q ∧ (q = true → But b w3 W' ∧ w3.heap.size ≤ W'.heap.size ∧ ¬ ((∀ c ∈ l, isLab c ∧ c ≠ x) ∧ l.Nodup)) ∧ (q = false → But b w3 W' ∧ w3.heap.size ≤ W'.heap.size ∧ ((∀ c ∈ pre ++ [y], isLab c ∧ c ≠ x) ∧ (pre ++ [y]).Nodup) ∧ SeenIs W' b ([x] ++ (pre ++ [y]))) := by
    rintro pre y suf W hcut ⟨j1, j2, ⟨j3, j4⟩, j5⟩
    refine (different1_c (g := g) (j1.blk f3.blk hgb) j5).mono ?_
    rintro u W' ⟨q, rfl, k1, k2, k3, k4⟩
    refine ⟨q, rfl, fun hq => ⟨j1.trans k1, by omega, fun ⟨h1, h2⟩ => k3 hq ?_⟩, fun hq => ?_⟩
    · rw [hcut] at h1 h2
      have hy := h1 y (by simp)
      refine ⟨hy.1, fun hm => ?_⟩
      rcases List.mem_append.1 hm with h | h
      · rw [List.mem_singleton] at h
        exact hy.2 h
      · exact (List.nodup_append.1 h2).2.2 y h y (by simp) rfl
    · obtain ⟨⟨h1, h2⟩, h3⟩ := k4 hq
      refine ⟨j1.trans k1, by omega, ⟨fun c hc => ?_, ?_⟩, by simpa using h3⟩
      · rcases List.mem_append.1 hc with h | h
        · exact j3 c h
        · rw [List.mem_singleton] at h
          subst h
          exact ⟨h1, fun e => h2 (by simp [e])⟩
      · refine List.nodup_append.2 ⟨j4, by simp, fun a ha c hc e => ?_⟩
        rw [List.mem_singleton] at hc
        subst hc
        subst e
        exact h2 (List.mem_append_right _ ha)
  refine TW.call0 (cap := []) rfl rfl en65 rfl (Args.cons rfl ct (Args.cons rfl ct Args.nil)) (containsT_c (F := F) (caps := [.pointer (some ⟨g, 0, none⟩)]) (fun pre W => But b w3 W ∧ w3.heap.size ≤ W.heap.size ∧ ((∀ c ∈ pre, isLab c ∧ c ≠ x) ∧ pre.Nodup) ∧ SeenIs W b ([x] ++ pre)) (fun W => But b w3 W ∧ w3.heap.size ≤ W.heap.size ∧ ¬ ((∀ c ∈ l, isLab c ∧ c ≠ x) ∧ l.Nodup)) (fun pre W h => hl.below (But.below hbel3 h.1 (by omega))) en66 ⟨But.of_below (Below.refl _ _), Nat.le_refl _, ⟨fun c hc => (by cases hc), List.Pairwise.nil⟩, by simpa using hS3⟩ hpred) ?_
  rintro u4 w4 h4
  rcases h4 with ⟨rfl, j1, j2, j3, _⟩ | ⟨rfl, j1, j2, j3⟩
  · skip
    refine TW.not rfl rfl rfl ct ?_
    refine TW.assign rfl rfl rfl ct ?_
    refine TW.nil (KW.pick [0, 1, 4, 5] [(0, _, _), (1, _, _), (4, _, _), (5, _, _)] rfl (KW.then_ ?_))
    refine CW.ret ?_
    refine ret1 Tryz.results42 rfl (⟨But.below hbel3 j1 (by omega), by rw [dec_pos j3]; rfl⟩)
  · skip
    refine TW.not rfl rfl rfl ct ?_
    refine TW.assign rfl rfl rfl ct ?_
    refine TW.nil (KW.pick [0, 1, 4, 5] [(0, _, _), (1, _, _), (4, _, _), (5, _, _)] rfl (KW.then_ ?_))
    refine CW.ret ?_
    refine ret1 Tryz.results42 rfl (⟨But.below hbel3 j1 (by omega), by rw [dec_neg j3]; rfl⟩)

theorem complete1_c {w : World} {n m : Int} : Gives Tryz.prog 40 #[.int .i64 n, .int .i64 m] w fun u w' => Below w.heap.size w w' ∧ u = .bool (decide (0 ≤ n ∧ n ≤ m)) := by
  refine gives_of (vs := [.int .i64 n, .int .i64 m]) [(0, none, _), (1, none, _)] Tryz.func40 rfl Tryz.ntmps40 rfl rfl ?_
  refine CW.seq (CW.region ?_)
  refine TW.assign rfl rfl rfl ct ?_
  refine TW.nil (KW.pick [0, 1, 4] [(0, _, _), (1, _, _), (4, _, _)] rfl (KW.then_ ?_))
  refine CW.seq (CW.region ?_)
  refine TW.move rfl rfl rfl ct ?_
  refine TW.geq rfl rfl rfl ct rfl ct ?_
  refine TW.move rfl rfl rfl ct ?_
  refine TW.move rfl rfl rfl ct ?_
  refine TW.move rfl rfl rfl ct ?_
  refine TW.leq rfl rfl rfl id rfl id ?_
  refine TW.pickAnd rfl rfl rfl ct rfl pAnd0 ?_
  refine TW.assign rfl rfl rfl ct ?_
  refine TW.nil (KW.pick [0, 1, 4] [(0, _, _), (1, _, _), (4, _, _)] rfl (KW.then_ ?_))
  refine CW.ret ?_
  refine ret1 Tryz.results40 rfl (⟨Below.refl _ _, by simp⟩)

set_option maxRecDepth 20000 in
theorem complete_c {w : World} {v : Value} {r : Rc} {F : Nat → Prop} (h : RcOK F w v r) :
    Gives Tryz.prog 26 #[.agg (rcV r v).toArray] w fun u w' => Below w.heap.size w w' ∧ u = .bool (dec (Comp r)) := by
  have hct := h.ct
  obtain ⟨A, cap, rfl, _⟩ := hct.form
  have hmax := hct.len.2.2
  refine gives_of (vs := [.agg (rcV r (.slice A r.cont.length cap)).toArray]) [(0, none, _)] Tryz.func26 rfl Tryz.ntmps26 rfl rfl ?_
  refine CW.seq (CW.region ?_)
  refine TW.box rfl rfl rfl rfl ?_
  rintro g1 w1 f1
  refine TW.assign rfl rfl rfl ct ?_
  refine TW.nil (KW.pick [0, 1, 2] [(0, _, _), (1, _, _), (2, _, _)] rfl (KW.then_ ?_))
  refine CW.seq (CW.region ?_)
  refine TW.assign rfl rfl rfl ct ?_
  refine TW.nil (KW.pick [0, 1, 2, 3] [(0, _, _), (1, _, _), (2, _, _), (3, _, _)] rfl (KW.then_ ?_))
  refine CW.seq (CW.seq (CW.region ?_))
  refine TW.move rfl rfl rfl ct ?_
  refine TW.fieldAddr rfl rfl fo37_0 rfl ct ?_
  refine TW.load rfl rfl one3 rfl ct (fun _ => f1.blk.fld rfl) ?_
  refine TW.callF rfl rfl en40 rfl ct (Args.cons rfl ct (Args.cons rfl ct Args.nil)) (fun _ => complete1_c) ?_
  rintro w2 b2
  refine TW.not rfl rfl rfl ct ?_
  refine TW.move rfl rfl rfl ct ?_
  refine TW.move rfl rfl rfl ct ?_
  refine TW.fieldAddr rfl rfl fo37_1 rfl ct ?_
  refine TW.load rfl rfl one3 rfl id (fun _ => (f1.blk.next b2).fld rfl) ?_
  refine TW.callF rfl rfl en40 rfl id (Args.cons rfl id (Args.cons rfl ct Args.nil)) (fun _ => complete1_c) ?_
  rintro w3 b3
  refine TW.not rfl rfl rfl id ?_
  refine TW.pickOr rfl rfl rfl ct rfl pOr0 ?_
  refine TW.move rfl rfl rfl ct ?_
  refine TW.move rfl rfl rfl ct ?_
  refine TW.fieldAddr rfl rfl fo37_3 rfl ct ?_
  refine TW.load rfl rfl one3 rfl id (fun _ => (f1.blk.next (b2.step b3)).fld rfl) ?_
  refine TW.callF rfl rfl en40 rfl id (Args.cons rfl id (Args.cons rfl ct Args.nil)) (fun _ => complete1_c) ?_
  rintro w4 b4
  refine TW.not rfl rfl rfl id ?_
  refine TW.pickOr rfl rfl rfl ct rfl pOr0 ?_
  refine TW.move rfl rfl rfl ct ?_
  refine TW.fieldAddr rfl rfl fo37_4 rfl ct ?_
  refine TW.load rfl rfl one9 rfl id (fun _ => (f1.blk.next ((b2.step b3).step b4)).fld rfl) ?_
  refine TW.callF (cap := []) rfl rfl en41 rfl ct (Args.cons rfl id Args.nil) (fun _ => isLabel_c) ?_
  rintro w5 b5
  refine TW.not rfl rfl rfl id ?_
  refine TW.pickOr rfl rfl rfl ct rfl pOr0 ?_
  refine TW.nil (KW.pick [0, 1, 2, 3, 28] [(0, _, _), (1, _, _), (2, _, _), (3, _, _), (28, _, _)] rfl (KW.then_ ?_))
  have b15 := ((b2.step b3).step b4).step b5
  have f5 := f1.blk.next b15
  have hbel := f1.below.step b15
  have hc5 := hct.below hbel
  refine CW.cond rfl (fun hbad => ?_) (fun hgood => ?_)
  · refine CW.seq (CW.region ?_)
    refine TW.assign rfl rfl rfl ct ?_
    refine TW.nil (KW.pick [0, 1, 2, 3] [(0, _, _), (1, _, _), (2, _, _), (3, _, _)] rfl (KW.then_ ?_))
    refine CW.ret (KW.thenR ?_)
    refine ret1 Tryz.results26 rfl (⟨hbel, ?_⟩)
    rw [dec_neg fun hc => ?_]
    have h1 := hc.lab
    have := hc.s1; have := hc.s2; have := hc.n1; have := hc.n2; have := hc.t1; have := hc.t2
    rw [dec_pos h1] at hbad
    simp [*] at hbad
  · have hq : (0 ≤ r.scn ∧ r.scn ≤ 1000000) ∧ (0 ≤ r.num ∧ r.num ≤ 1000000) ∧ (0 ≤ r.time ∧ r.time ≤ 1000000) ∧ isLab r.label := by
      by_cases hl : isLab r.label
      · rw [dec_pos hl] at hgood
        simp at hgood
        exact ⟨by omega, by omega, by omega, hl⟩
      · rw [dec_neg hl] at hgood
        simp at hgood
    obtain ⟨⟨s1, s2⟩, ⟨n1, n2⟩, ⟨t1, t2⟩, hlab⟩ := hq
    refine CW.skip (KW.then_ (CW.seq (CW.seq (CW.region ?_))))
    refine TW.fieldAddr rfl rfl fo37_2 rfl ct ?_
    refine TW.load rfl rfl one3 rfl ct (fun _ => f5.fld rfl) ?_
    refine TW.nil (KW.pick [0, 1, 2, 3, 30] [(0, _, _), (1, _, _), (2, _, _), (3, _, _), (30, _, _)] rfl (KW.then_ ?_))
    refine CW.block (CW.seq (CW.region ?_))
    refine TW.eql rfl rfl rfl ct rfl ct ?_
    refine TW.assign rfl rfl rfl ct ?_
    refine TW.nil (KW.pick [0, 1, 2, 3, 30, 31] [(0, _, _), (1, _, _), (2, _, _), (3, _, _), (30, _, _), (31, _, _)] rfl (KW.then_ ?_))
    refine CW.condP rfl (fun hk1 => ?_) (fun hk1 => ?_)
    · refine CW.seq (CW.region ?_)
      refine TW.fieldAddr rfl rfl fo37_5 rfl ct ?_
      refine TW.load rfl rfl one35 rfl ct (fun _ => f5.fld rfl) ?_
      refine TW.lenSlice rfl rfl Tryz.underlying35 rfl ct ?_
      refine TW.eql rfl rfl rfl ct rfl ct ?_
      refine TW.assign rfl rfl rfl ct ?_
      refine TW.nil (KW.pick [0, 1, 2, 3, 30] [(0, _, _), (1, _, _), (2, _, _), (3, _, _), (30, _, _)] rfl (KW.then_ ?_))
      refine CW.ret (KW.blockR (KW.thenR ?_))
      refine ret1 Tryz.results26 rfl (⟨hbel, ?_⟩)
      by_cases h0 : r.cont = []
      · rw [dec_pos ⟨s1, s2, n1, n2, t1, t2, hlab, .inl ⟨hk1, h0⟩⟩]
        simp [h0]
      · rw [dec_neg fun hc => ?_]
        · simp [h0]
        · rcases hc.kinds with ⟨_, h⟩ | ⟨h, _⟩
          · exact h0 h
          · omega
    · refine CW.seq (CW.region ?_)
      refine TW.eql rfl rfl rfl ct rfl ct ?_
      refine TW.assign rfl rfl rfl ct ?_
      refine TW.nil (KW.pick [0, 1, 2, 3, 30, 37] [(0, _, _), (1, _, _), (2, _, _), (3, _, _), (30, _, _), (37, _, _)] rfl (KW.then_ ?_))
      refine CW.condP rfl (fun hk2 => ?_) (fun hk2 => ?_)
      · refine CW.seq (CW.region ?_)
        refine TW.fieldAddr rfl rfl fo37_5 rfl ct ?_
        refine TW.load rfl rfl one35 rfl ct (fun _ => f5.fld rfl) ?_
        refine TW.lenSlice rfl rfl Tryz.underlying35 rfl ct ?_
        refine TW.leq rfl rfl rfl ct rfl ct ?_
        refine TW.move rfl rfl rfl ct ?_
        refine TW.fieldAddr rfl rfl fo37_4 rfl ct ?_
        refine TW.load rfl rfl one9 rfl id (fun _ => f5.fld rfl) ?_
        refine TW.fieldAddr rfl rfl fo37_5 rfl ct ?_
        refine TW.load rfl rfl one35 rfl id (fun _ => f5.fld rfl) ?_
        refine TW.callF (cap := []) rfl rfl en42 rfl ct (Args.cons rfl id (Args.cons rfl id Args.nil)) (fun _ => different_c hc5) ?_
        rintro w6 b6
        refine TW.pickAnd rfl rfl rfl ct rfl pAnd0 ?_
        refine TW.assign rfl rfl rfl ct ?_
        refine TW.nil (KW.pick [0, 1, 2, 3, 30] [(0, _, _), (1, _, _), (2, _, _), (3, _, _), (30, _, _)] rfl (KW.then_ ?_))
        refine CW.ret (KW.blockR (KW.thenR ?_))
        refine ret1 Tryz.results26 rfl (⟨hbel.step b6, ?_⟩)
        by_cases hk : Kinds r
        · rw [dec_pos (p := Comp r) ⟨s1, s2, n1, n2, t1, t2, hlab, hk⟩]
          rcases hk with ⟨h, _⟩ | ⟨_, h1, h2, h3⟩
          · omega
          · rw [dec_pos ⟨h2, h3⟩]
            simp
            omega
        · rw [dec_neg (p := Comp r) fun hc => hk hc.kinds]
          by_cases hd : (∀ c ∈ r.cont, isLab c ∧ c ≠ r.label) ∧ r.cont.Nodup
          · have : ¬ r.cont.length ≤ 40 := fun h => hk (.inr ⟨hk2, h, hd.1, hd.2⟩)
            simp
            omega
          · rw [dec_neg hd]
            simp
      · refine CW.skip (KW.blockN (KW.then_ (CW.seq (CW.region ?_))))
        refine TW.assign rfl rfl rfl ct ?_
        refine TW.nil (KW.pick [0, 1, 2, 3, 30] [(0, _, _), (1, _, _), (2, _, _), (3, _, _), (30, _, _)] rfl (KW.then_ ?_))
        refine CW.ret ?_
        refine ret1 Tryz.results26 rfl (⟨hbel, ?_⟩)
        rw [dec_neg fun hc => ?_]
        rcases hc.kinds with ⟨h, _⟩ | ⟨h, _⟩
        · exact hk1 h
        · exact hk2 h

set_option maxRecDepth 20000 in
theorem valid_c {w : World} {u v : Value} {l : List Sc} {r : Rc} {F G : Nat → Prop} (hl : SL scT G w u l) (h : RcOK F w v r) :
    Gives Tryz.prog 13 #[u, .agg (rcV r v).toArray] w fun x w' => Below w.heap.size w w' ∧ x = .bool (dec (Val l r)) := by
  have hct := h.ct
  obtain ⟨A, cap, rfl, _⟩ := hct.form
  obtain ⟨B, bcap, rfl, _⟩ := hl.form
  have hmax := hl.len.2.2
  refine gives_of (vs := [.slice B l.length bcap, .agg (rcV r (.slice A r.cont.length cap)).toArray]) [(0, none, _), (1, none, _)] Tryz.func13 rfl Tryz.ntmps13 rfl rfl ?_
  refine CW.seq (CW.region ?_)
  refine TW.box rfl rfl rfl rfl ?_
  rintro g1 w1 f1
  refine TW.assign rfl rfl rfl ct ?_
  refine TW.nil (KW.pick [0, 1, 3, 4] [(0, _, _), (1, _, _), (3, _, _), (4, _, _)] rfl (KW.then_ ?_))
  refine CW.seq (CW.seq (CW.region ?_))
  refine TW.move rfl rfl rfl ct ?_
  refine TW.lenSlice rfl rfl Tryz.underlying22 rfl ct ?_
  refine TW.gtr rfl rfl rfl ct rfl ct ?_
  refine TW.move rfl rfl rfl ct ?_
  refine TW.fieldAddr rfl rfl fo37_0 rfl ct ?_
  refine TW.load rfl rfl one3 rfl id (fun _ => f1.blk.fld rfl) ?_
  refine TW.lss rfl rfl rfl id rfl ct ?_
  refine TW.pickOr rfl rfl rfl ct rfl pOr0 ?_
  refine TW.move rfl rfl rfl ct ?_
  refine TW.fieldAddr rfl rfl fo37_0 rfl ct ?_
  refine TW.load rfl rfl one3 rfl id (fun _ => f1.blk.fld rfl) ?_
  refine TW.move rfl rfl rfl ct ?_
  refine TW.lenSlice rfl rfl Tryz.underlying22 rfl id ?_
  refine TW.geq rfl rfl rfl id rfl id ?_
  refine TW.pickOr rfl rfl rfl ct rfl pOr0 ?_
  refine TW.nil (KW.pick [0, 1, 3, 4, 20] [(0, _, _), (1, _, _), (3, _, _), (4, _, _), (20, _, _)] rfl (KW.then_ ?_))
  refine CW.cond rfl (fun hbad => ?_) (fun hgood => ?_)
  · refine CW.seq (CW.region ?_)
    refine TW.assign rfl rfl rfl ct ?_
    refine TW.nil (KW.pick [0, 1, 3, 4] [(0, _, _), (1, _, _), (3, _, _), (4, _, _)] rfl (KW.then_ ?_))
    refine CW.ret (KW.thenR ?_)
    refine ret1 Tryz.results13 rfl (⟨f1.below, ?_⟩)
    rw [dec_neg fun hc => ?_]
    have h1 := hc.few
    have h2 := hc.comp.s1
    obtain ⟨s, hs, _⟩ := hc.scan
    have h3 := (List.getElem?_eq_some_iff.1 hs).1
    simp at hbad
    omega
  · have hq : l.length ≤ 24 ∧ 0 ≤ r.scn ∧ r.scn < l.length := by
      simp at hgood
      omega
    obtain ⟨hfew, hs0, hs1⟩ := hq
    obtain ⟨s, hs, hsm⟩ := getx (l := l) (k := r.scn.toNat) (by omega)
    have hl1 := hl.below f1.below
    obtain ⟨ad, rfl⟩ := hl1.addr (by omega)
    obtain ⟨hcells, i1, i2, i3⟩ := SS.get hl1 hs
    have hr : ((r.scn.toNat : Nat) : Int) = r.scn := by omega
    rw [hr] at hcells
    refine CW.skip (KW.then_ (CW.seq (CW.region ?_)))
    refine TW.move rfl rfl rfl ct ?_
    refine TW.fieldAddr rfl rfl fo37_0 rfl ct ?_
    refine TW.load rfl rfl one3 rfl ct (fun _ => f1.blk.fld rfl) ?_
    refine TW.indexAddr rfl rfl Tryz.underlying22 sz54 rfl ct rfl ct (fun _ => by (try dsimp only); omega) ?_
    refine TW.loadS _ rfl rfl Tryz.underlying54 sz54 rfl ct (fun _ => hcells) rfl ?_
    refine TW.newVar rfl zc54 rfl sz54 rfl rfl ?_
    rintro g2 w2 f2
    refine TW.nil (KW.pick [0, 1, 3, 4, 5] [(0, _, _), (1, _, _), (3, _, _), (4, _, _), (5, _, _)] rfl (KW.then_ ?_))
    refine CW.seq (CW.region ?_)
    refine TW.fieldAddr rfl rfl fo54_0 rfl ct ?_
    have hB1 := f1.blk.next f2.below
    refine TW.load rfl rfl one3 rfl ct (fun _ => f2.blk.fld rfl) ?_
    refine TW.geq rfl rfl rfl ct rfl ct ?_
    refine TW.move rfl rfl rfl ct ?_
    refine TW.fieldAddr rfl rfl fo54_1 rfl ct ?_
    refine TW.load rfl rfl one3 rfl id (fun _ => f2.blk.fld rfl) ?_
    refine TW.geq rfl rfl rfl id rfl ct ?_
    refine TW.pickAnd rfl rfl rfl ct rfl pAnd0 ?_
    refine TW.move rfl rfl rfl ct ?_
    refine TW.fieldAddr rfl rfl fo54_2 rfl ct ?_
    refine TW.load rfl rfl one3 rfl id (fun _ => f2.blk.fld rfl) ?_
    refine TW.geq rfl rfl rfl id rfl ct ?_
    refine TW.pickAnd rfl rfl rfl ct rfl pAnd0 ?_
    refine TW.move rfl rfl rfl ct ?_
    refine TW.fieldAddr rfl rfl fo54_2 rfl ct ?_
    refine TW.load rfl rfl one3 rfl id (fun _ => f2.blk.fld rfl) ?_
    refine TW.leq rfl rfl rfl id rfl ct ?_
    refine TW.pickAnd rfl rfl rfl ct rfl pAnd0 ?_
    refine TW.move rfl rfl rfl ct ?_
    refine TW.loadS _ rfl rfl Tryz.underlying37 sz37 rfl ct (fun _ => (fun _ _ hv => hB1.fld hv)) rfl ?_
    refine TW.callF (cap := []) rfl rfl en26 rfl ct (Args.cons rfl id Args.nil) (fun _ => complete_c (h.below (f1.below.step f2.below))) ?_
    rintro w3 b3
    refine TW.pickAnd rfl rfl rfl ct rfl pAnd0 ?_
    refine TW.assign rfl rfl rfl ct ?_
    refine TW.nil (KW.pick [0, 1, 3, 4, 5] [(0, _, _), (1, _, _), (3, _, _), (4, _, _), (5, _, _)] rfl (KW.then_ ?_))
    refine CW.ret ?_
    refine ret1 Tryz.results13 rfl (⟨(f1.below.step f2.below).step b3, ?_⟩)
    by_cases hc : Comp r
    · rw [dec_pos hc]
      by_cases hk : ScOK s
      · rw [dec_pos (p := Val l r) ⟨hfew, hc, s, hs, hk⟩]
        obtain ⟨q1, q2, q3, q4⟩ := hk
        simp [q1, q2, q3, q4]
      · rw [dec_neg (p := Val l r) fun hv => hk ?_]
        · rw [Value.bool.injEq, Bool.eq_false_iff]
          intro h
          simp at h
          exact hk ⟨by omega, by omega, by omega, by omega⟩
        · obtain ⟨s', hs', hk'⟩ := hv.scan
          rw [hs] at hs'
          cases hs'
          exact hk'
    · rw [dec_neg hc, dec_neg (p := Val l r) fun hv => hc hv.comp]
      simp
end Go.Proofs.YthjcgmjcpmodlaaGreatDoor
