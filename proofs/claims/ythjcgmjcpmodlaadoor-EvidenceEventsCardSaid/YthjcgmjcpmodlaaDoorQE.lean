/- Texts joined: Shelf Va Vd. -/
import Derived.Shelf.SlSortCmp.WholeK
import Derived.Ground.SlsfProg
import Derived.Shelf.Strings.OnBuilder
import Derived.Shelf.LaysM
import Derived.Shelf.Strconv.Itoa3
import Derived.Shelf.Sort.Plain
import Derived.Shelf.Strings.FuncGrows
import Derived.Shelf.Slices.CompactI
import Derived.Shelf.Slices.In.SortNone
import Derived.Test.YthjcgmjcpmodlaaDoorProg
import Derived.Test.YthjcgmjcpmodlaaDoorQD
import Derived.Test.YthjcgmjcpmodlaaDoorQFacts
set_option linter.unusedSimpArgs false
set_option linter.unusedVariables false

namespace Go.Proofs
open Go.Shelf
def Tryd.lays156_ren : Go.Shelf.Ren := ⟨fun | 156 => 41 | 165 => 62 | 166 => 63 | 169 => 64 | 240 => 77 | 241 => 78 | 276 => 87 | 277 => 88 | n => n, fun | 31 => 33 | 9 => 9 | 3 => 3 | 4 => 4 | 0 => 0 | 20 => 20 | 72 => 99 | 76 => 103 | 70 => 96 | 37 => 97 | 75 => 102 | 127 => 119 | 164 => 130 | 5 => 5 | 80 => 105 | n => n, fun | n => n⟩
theorem Tryd.lays156 : Go.Proofs.Lays.n156 Tryd.prog Tryd.lays156_ren := {
  mixed := by kernel_rfl
  f156 := Tryd.func41.trans (congrArg some (by kernel_rfl))
  f165 := Tryd.func62.trans (congrArg some (by kernel_rfl))
  f166 := Tryd.func63.trans (congrArg some (by kernel_rfl))
  f169 := Tryd.func64.trans (congrArg some (by kernel_rfl))
  f240 := Tryd.func77.trans (congrArg some (by kernel_rfl))
  f241 := Tryd.func78.trans (congrArg some (by kernel_rfl))
  f276 := Tryd.func87.trans (congrArg some (by kernel_rfl))
  f277 := Tryd.func88.trans (congrArg some (by kernel_rfl))
  t0 := Tryd.underlying0
  a0 := Tryd.isAgg0
  z0 := Tryd.sizeOf0
  v0 := Tryd.zeroValue0
  t3 := Tryd.underlying3
  a3 := Tryd.isAgg3
  z3 := Tryd.sizeOf3
  v3 := Tryd.zeroValue3
  t4 := Tryd.underlying4
  a4 := Tryd.isAgg4
  z4 := Tryd.sizeOf4
  v4 := Tryd.zeroValue4
  t9 := Tryd.underlying9
  a9 := Tryd.isAgg9
  z9 := Tryd.sizeOf9
  v9 := Tryd.zeroValue9
  t20 := Tryd.underlying20
  a20 := Tryd.isAgg20
  z20 := Tryd.sizeOf20
  v20 := Tryd.zeroValue20
  t31 := Tryd.underlying33
  a31 := Tryd.isAgg33
  z31 := Tryd.sizeOf33
  v31 := Tryd.zeroValue33
  t37 := Tryd.underlying97
  a37 := Tryd.isAgg97
  z37 := Tryd.sizeOf97
  v37 := Tryd.zeroValue97
  t70 := Tryd.underlying96
  a70 := Tryd.isAgg96
  z70 := Tryd.sizeOf96
  v70 := Tryd.zeroValue96
  t72 := Tryd.underlying99
  a72 := Tryd.isAgg99
  z72 := Tryd.sizeOf99
  v72 := Tryd.zeroValue99
  t75 := Tryd.underlying102
  a75 := Tryd.isAgg102
  z75 := Tryd.sizeOf102
  v75 := Tryd.zeroValue102
  t76 := Tryd.underlying103
  a76 := Tryd.isAgg103
  z76 := Tryd.sizeOf103
  v76 := Tryd.zeroValue103
  t127 := Tryd.underlying119
  a127 := Tryd.isAgg119
  z127 := Tryd.sizeOf119
  v127 := Tryd.zeroValue119
  t164 := Tryd.underlying130
  a164 := Tryd.isAgg130
  z164 := Tryd.sizeOf130
  v164 := Tryd.zeroValue130 }
theorem Tryd.Builder_Extra_156 : Builder.Extra Tryd.prog Tryd.lays156_ren := {
  sizeBuilder := by kernel_rfl
  liesBuilder := by kernel_rfl
  t5 := Tryd.underlying5
  a5 := Tryd.isAgg5
  z5 := Tryd.sizeOf5
  v5 := Tryd.zeroValue5
  infoByte := by kernel_rfl
  cellsByte := by kernel_rfl
  sizeByte := by kernel_rfl
  neB5 := by decide }
open Go.RowKit in
theorem Tryd.strings_Join_none (a : Option Addr) (c : Nat) (sep : ByteArray) (w : World) :
    Calls Tryd.prog 41 #[.slice a 0 c, .string sep] w fun e w' => e = .returned (.string ⟨#[]⟩) ∧ w' = w := Any.strings_Join_none Tryd.lays156 Tryd.Builder_Extra_156 a c sep w
open Go.RowKit in
theorem Tryd.strings_Join (bk o c : Nat) (xs : List ByteArray) (sep : ByteArray) (w : World) (hcells : ∀ (j : Nat) x, xs[j]? = some x → w.cell? ⟨bk, o + j, none⟩ = some (.string x)) (hbk : bk < w.heap.size) (hN : xs.length ≤ 140737488355328) (hcap : xs.length ≤ c) (hlen : (Lib.join (xs.map (·.data.toList)) sep.data.toList).length ≤ 140737488355328) :
    Calls Tryd.prog 41 #[.slice (some ⟨bk, o, none⟩) xs.length c, .string sep] w fun e w' => e = .returned (.string ⟨(Lib.join (xs.map (·.data.toList)) sep.data.toList).toArray⟩) ∧ Below w.heap.size w w' := Any.strings_Join Tryd.lays156 Tryd.Builder_Extra_156 bk o c xs sep w hcells hbk hN hcap hlen
def Tryd.laysM171_ren : Go.Shelf.Ren := ⟨fun | 171 => 40 | 243 => 61 | 246 => 76 | 283 => 83 | 284 => 84 | 285 => 85 | 286 => 86 | 129 => 60 | 317 => 97 | 318 => 98 | 319 => 99 | 320 => 100 | 337 => 104 | 338 => 105 | n => n, fun | 3 => 3 | 9 => 9 | 2 => 2 | 4 => 4 | 171 => 126 | 0 => 0 | 53 => 95 | 37 => 97 | 5 => 5 | 173 => 128 | 212 => 140 | 51 => 93 | 20 => 20 | 213 => 141 | 46 => 73 | 232 => 145 | 233 => 146 | n => n, fun | 17 => 0 | 18 => 2 | 19 => 3 | n => n⟩
theorem Tryd.laysM171 : Go.Proofs.LaysM.n171 Tryd.prog Tryd.laysM171_ren := {
  mixed := by kernel_rfl
  f129 := Tryd.func60.trans (congrArg some (by kernel_rfl))
  f171 := Tryd.func40.trans (congrArg some (by kernel_rfl))
  f243 := Tryd.func61.trans (congrArg some (by kernel_rfl))
  f246 := Tryd.func76.trans (congrArg some (by kernel_rfl))
  f283 := Tryd.func83.trans (congrArg some (by kernel_rfl))
  f284 := Tryd.func84.trans (congrArg some (by kernel_rfl))
  f285 := Tryd.func85.trans (congrArg some (by kernel_rfl))
  f286 := Tryd.func86.trans (congrArg some (by kernel_rfl))
  f317 := Tryd.func97.trans (congrArg some (by kernel_rfl))
  f318 := Tryd.func98.trans (congrArg some (by kernel_rfl))
  f319 := Tryd.func99.trans (congrArg some (by kernel_rfl))
  f320 := Tryd.func100.trans (congrArg some (by kernel_rfl))
  f337 := Tryd.func104.trans (congrArg some (by kernel_rfl))
  f338 := Tryd.func105.trans (congrArg some (by kernel_rfl))
  t0 := Tryd.underlying0
  a0 := Tryd.isAgg0
  z0 := Tryd.sizeOf0
  v0 := Tryd.zeroValue0
  t2 := Tryd.underlying2
  a2 := Tryd.isAgg2
  z2 := Tryd.sizeOf2
  v2 := Tryd.zeroValue2
  t3 := Tryd.underlying3
  a3 := Tryd.isAgg3
  z3 := Tryd.sizeOf3
  v3 := Tryd.zeroValue3
  t4 := Tryd.underlying4
  a4 := Tryd.isAgg4
  z4 := Tryd.sizeOf4
  v4 := Tryd.zeroValue4
  t5 := Tryd.underlying5
  a5 := Tryd.isAgg5
  z5 := Tryd.sizeOf5
  v5 := Tryd.zeroValue5
  t9 := Tryd.underlying9
  a9 := Tryd.isAgg9
  z9 := Tryd.sizeOf9
  v9 := Tryd.zeroValue9
  t20 := Tryd.underlying20
  a20 := Tryd.isAgg20
  z20 := Tryd.sizeOf20
  v20 := Tryd.zeroValue20
  t37 := Tryd.underlying97
  a37 := Tryd.isAgg97
  z37 := Tryd.sizeOf97
  v37 := Tryd.zeroValue97
  t46 := Tryd.underlying73
  a46 := Tryd.isAgg73
  z46 := Tryd.sizeOf73
  v46 := Tryd.zeroValue73
  t51 := Tryd.underlying93
  a51 := Tryd.isAgg93
  z51 := Tryd.sizeOf93
  v51 := Tryd.zeroValue93
  t53 := Tryd.underlying95
  a53 := Tryd.isAgg95
  z53 := Tryd.sizeOf95
  v53 := Tryd.zeroValue95
  t171 := Tryd.underlying126
  a171 := Tryd.isAgg126
  z171 := Tryd.sizeOf126
  v171 := Tryd.zeroValue126
  t173 := Tryd.underlying128
  a173 := Tryd.isAgg128
  z173 := Tryd.sizeOf128
  v173 := Tryd.zeroValue128
  t212 := Tryd.underlying140
  a212 := Tryd.isAgg140
  z212 := Tryd.sizeOf140
  v212 := Tryd.zeroValue140
  t213 := Tryd.underlying141
  a213 := Tryd.isAgg141
  z213 := Tryd.sizeOf141
  t232 := Tryd.underlying145
  a232 := Tryd.isAgg145
  z232 := Tryd.sizeOf145
  v232 := Tryd.zeroValue145
  t233 := Tryd.underlying146
  a233 := Tryd.isAgg146
  z233 := Tryd.sizeOf146
  v233 := Tryd.zeroValue146
  g17 := by kernel_rfl
  g18 := by kernel_rfl
  g19 := by kernel_rfl
  i0 := by kernel_rfl
  i2 := by kernel_rfl
  i3 := by kernel_rfl
  i4 := by kernel_rfl
  i5 := by kernel_rfl
  i9 := by kernel_rfl
  i20 := by kernel_rfl
  i37 := by kernel_rfl
  i46 := by kernel_rfl
  i51 := by kernel_rfl
  i53 := by kernel_rfl
  i171 := by kernel_rfl
  i173 := by kernel_rfl
  i212 := by kernel_rfl
  i232 := by kernel_rfl
  i233 := by kernel_rfl
  m17 := by kernel_rfl
  m18 := by kernel_rfl
  m19 := by kernel_rfl }
open Go.RowKit Go.Sort Go.Lib in
theorem Tryd.strconv_Itoa (n : Int) (h0 : -9223372036854775808 ≤ n) (h1 : n ≤ 9223372036854775807) (w : World) (htab : Lib.TabIs Tryd.prog w "internal/strconv.uint64pow10" .u64 Lib.pow10Tab) :
    Calls Tryd.prog 40 #[.int .i64 n] w fun e w' => e = .returned (.string ⟨(Lib.itoa n).toArray⟩) ∧ ∃ k os, w' = grow (w.drewN k) os := Any.strconv_Itoa Tryd.laysM171 n h0 h1 w htab
def Tryd.lays189_ren : Go.Shelf.Ren := ⟨fun | 189 => 24 | 125 => 38 | 257 => 37 | 128 => 59 | 129 => 60 | 294 => 50 | 295 => 51 | 296 => 52 | 297 => 53 | 298 => 54 | 299 => 55 | 216 => 56 | 300 => 57 | 301 => 58 | 328 => 70 | 329 => 71 | 330 => 72 | 331 => 73 | 332 => 74 | 215 => 75 | 343 => 82 | n => n, fun | 28 => 29 | 3 => 3 | 46 => 73 | 0 => 0 | 51 => 93 | 53 => 95 | 4 => 4 | 183 => 86 | 182 => 85 | 131 => 90 | 5 => 5 | 9 => 9 | 218 => 111 | 222 => 115 | 228 => 123 | 229 => 124 | n => n, fun | n => n⟩
theorem Tryd.lays189 : Go.Proofs.Lays.n189 Tryd.prog Tryd.lays189_ren := {
  mixed := by kernel_rfl
  f125 := Tryd.func38.trans (congrArg some (by kernel_rfl))
  f128 := Tryd.func59.trans (congrArg some (by kernel_rfl))
  f129 := Tryd.func60.trans (congrArg some (by kernel_rfl))
  f189 := Tryd.func24.trans (congrArg some (by kernel_rfl))
  f215 := Tryd.func75.trans (congrArg some (by kernel_rfl))
  f216 := Tryd.func56.trans (congrArg some (by kernel_rfl))
  f257 := Tryd.func37.trans (congrArg some (by kernel_rfl))
  f294 := Tryd.func50.trans (congrArg some (by kernel_rfl))
  f295 := Tryd.func51.trans (congrArg some (by kernel_rfl))
  f296 := Tryd.func52.trans (congrArg some (by kernel_rfl))
  f297 := Tryd.func53.trans (congrArg some (by kernel_rfl))
  f298 := Tryd.func54.trans (congrArg some (by kernel_rfl))
  f299 := Tryd.func55.trans (congrArg some (by kernel_rfl))
  f300 := Tryd.func57.trans (congrArg some (by kernel_rfl))
  f301 := Tryd.func58.trans (congrArg some (by kernel_rfl))
  f328 := Tryd.func70.trans (congrArg some (by kernel_rfl))
  f329 := Tryd.func71.trans (congrArg some (by kernel_rfl))
  f330 := Tryd.func72.trans (congrArg some (by kernel_rfl))
  f331 := Tryd.func73.trans (congrArg some (by kernel_rfl))
  f332 := Tryd.func74.trans (congrArg some (by kernel_rfl))
  f343 := Tryd.func82.trans (congrArg some (by kernel_rfl))
  t0 := Tryd.underlying0
  a0 := Tryd.isAgg0
  z0 := Tryd.sizeOf0
  v0 := Tryd.zeroValue0
  t3 := Tryd.underlying3
  a3 := Tryd.isAgg3
  z3 := Tryd.sizeOf3
  v3 := Tryd.zeroValue3
  t4 := Tryd.underlying4
  a4 := Tryd.isAgg4
  z4 := Tryd.sizeOf4
  v4 := Tryd.zeroValue4
  t5 := Tryd.underlying5
  a5 := Tryd.isAgg5
  z5 := Tryd.sizeOf5
  v5 := Tryd.zeroValue5
  t9 := Tryd.underlying9
  a9 := Tryd.isAgg9
  z9 := Tryd.sizeOf9
  v9 := Tryd.zeroValue9
  t28 := Tryd.underlying29
  a28 := Tryd.isAgg29
  z28 := Tryd.sizeOf29
  v28 := Tryd.zeroValue29
  t46 := Tryd.underlying73
  a46 := Tryd.isAgg73
  z46 := Tryd.sizeOf73
  v46 := Tryd.zeroValue73
  t51 := Tryd.underlying93
  a51 := Tryd.isAgg93
  z51 := Tryd.sizeOf93
  v51 := Tryd.zeroValue93
  t53 := Tryd.underlying95
  a53 := Tryd.isAgg95
  z53 := Tryd.sizeOf95
  v53 := Tryd.zeroValue95
  t131 := Tryd.underlying90
  a131 := Tryd.isAgg90
  z131 := Tryd.sizeOf90
  v131 := Tryd.zeroValue90
  t182 := Tryd.underlying85
  a182 := Tryd.isAgg85
  z182 := Tryd.sizeOf85
  v182 := Tryd.zeroValue85
  t183 := Tryd.underlying86
  a183 := Tryd.isAgg86
  z183 := Tryd.sizeOf86
  v183 := Tryd.zeroValue86
  t218 := Tryd.underlying111
  a218 := Tryd.isAgg111
  z218 := Tryd.sizeOf111
  v218 := Tryd.zeroValue111
  t222 := Tryd.underlying115
  a222 := Tryd.isAgg115
  z222 := Tryd.sizeOf115
  v222 := Tryd.zeroValue115
  t228 := Tryd.underlying123
  a228 := Tryd.isAgg123
  z228 := Tryd.sizeOf123
  v228 := Tryd.zeroValue123
  t229 := Tryd.underlying124
  a229 := Tryd.isAgg124
  z229 := Tryd.sizeOf124
  v229 := Tryd.zeroValue124 }
open Go.Sort Go.RowKit in
theorem Tryd.slices_Sort_int (blk off cap : Nat) (zs : List Int) (w : World) (hH : Holds (Value.int .i64) w blk off zs.toArray) (hblk : blk < w.heap.size) (hsz : zs.length < 4611686018427387904) :
    Calls Tryd.prog 24 #[.slice (some ⟨blk, off, none⟩) zs.length cap] w fun e w' =>
      e = .returned (.tuple #[]) ∧ ∃ n os, w' = grow (putRow (Value.int .i64) (Sort.ahead w n) blk off (zs.mergeSort fun x y => decide (x ≤ y)).toArray) os := Any.slices_Sort_int Tryd.lays189 blk off cap zs w hH hblk hsz
def Tryd.laysGw17_ren : Go.Shelf.Ren := ⟨fun | 17 => 47 | 15 => 68 | 20 => 81 | n => n, fun | 9 => 9 | 23 => 80 | 4 => 4 | 3 => 3 | 0 => 0 | 21 => 21 | n => n, fun | n => n⟩
theorem Tryd.laysGw17 : Go.Proofs.LaysGw.n17 Tryd.prog Tryd.laysGw17_ren := {
  mixed := by kernel_rfl
  f15 := Tryd.func68.trans (congrArg some (by kernel_rfl))
  f17 := Tryd.func47.trans (congrArg some (by kernel_rfl))
  f20 := Tryd.func81.trans (congrArg some (by kernel_rfl))
  t0 := Tryd.underlying0
  a0 := Tryd.isAgg0
  z0 := Tryd.sizeOf0
  v0 := Tryd.zeroValue0
  i0 := by kernel_rfl
  t3 := Tryd.underlying3
  a3 := Tryd.isAgg3
  z3 := Tryd.sizeOf3
  v3 := Tryd.zeroValue3
  i3 := by kernel_rfl
  t4 := Tryd.underlying4
  a4 := Tryd.isAgg4
  z4 := Tryd.sizeOf4
  v4 := Tryd.zeroValue4
  i4 := by kernel_rfl
  t9 := Tryd.underlying9
  a9 := Tryd.isAgg9
  z9 := Tryd.sizeOf9
  v9 := Tryd.zeroValue9
  i9 := by kernel_rfl
  t21 := Tryd.underlying21
  a21 := Tryd.isAgg21
  z21 := Tryd.sizeOf21
  v21 := Tryd.zeroValue21
  i21 := by kernel_rfl
  t23 := Tryd.underlying80
  a23 := Tryd.isAgg80
  z23 := Tryd.sizeOf80
  v23 := Tryd.zeroValue80
  i23 := by kernel_rfl }
open Go.RowKit Go.Lib in
theorem Tryd.strings_ContainsFunc_grows (g : Nat) (lb : Array Value) (eg : ∀ args w, (callFunc g args).run Tryd.prog w = .ok (.enter g args) w) (p : Nat → Bool) (s : ByteArray) (w : World) (hp : PredGrows Tryd.prog g lb p w) :
    Calls Tryd.prog 47 #[.string s, .func (.func g) #[] lb] w fun e w' => e = .returned (.bool (decide (0 ≤ Lib.idxFunc p true s))) ∧ Below w.heap.size w w' := Any.strings_ContainsFunc_grows Tryd.laysGw17 g lb eg p s w hp
def Tryd.laysNm220_ren : Go.Shelf.Ren := ⟨fun | 20 => 25 | n => n, fun | 22 => 29 | 3 => 3 | 4 => 4 | 0 => 0 | n => n, fun | n => n⟩
theorem Tryd.laysNm220 : Go.Proofs.Lays2.n20 Tryd.prog Tryd.laysNm220_ren := {
  mixed := by kernel_rfl
  f20 := Tryd.func25.trans (congrArg some (by kernel_rfl))
  t0 := Tryd.underlying0
  a0 := Tryd.isAgg0
  z0 := Tryd.sizeOf0
  v0 := Tryd.zeroValue0
  t3 := Tryd.underlying3
  a3 := Tryd.isAgg3
  z3 := Tryd.sizeOf3
  v3 := Tryd.zeroValue3
  t4 := Tryd.underlying4
  a4 := Tryd.isAgg4
  z4 := Tryd.sizeOf4
  v4 := Tryd.zeroValue4
  t22 := Tryd.underlying29
  a22 := Tryd.isAgg29
  z22 := Tryd.sizeOf29
  v22 := Tryd.zeroValue29
  i3 := by kernel_rfl }
open Go.RowKit Go.Lib Go.Sort in
theorem Tryd.slices_Compact_int (blk off cap : Nat) (zs : List Int) (w : World) (hH : Holds (Value.int .i64) w blk off zs.toArray) (hsz : zs.length ≤ 9223372036854775807) (hcap : zs.length ≤ cap) :
    Calls Tryd.prog 25 #[.slice (some ⟨blk, off, none⟩) zs.length cap] w fun e w' => e = .returned (.slice (some ⟨blk, off, none⟩) (Lib.compact zs).length cap) ∧ ∃ q, w' = putRow (Value.int .i64) (Sort.ahead w q) blk off (Lib.compact zs ++ List.replicate (zs.length - (Lib.compact zs).length) 0).toArray := Any.slices_Compact_int Tryd.laysNm220 blk off cap zs w hH hsz hcap
open Go.RowKit Go.Lib Go.Sort in
theorem Tryd.slices_Compact_int_empty (a : Option Addr) (cap : Nat) (w : World) :
    Calls Tryd.prog 25 #[.slice a 0 cap] w fun e w' => e = .returned (.slice a 0 cap) ∧ w' = w := Any.slices_Compact_int_empty Tryd.laysNm220 a cap w
open Go.RowKit Go.Sort in
theorem Tryd.slices_Sort_int_none (p : Option Addr) (cap : Nat) (w : World) :
    Calls Tryd.prog 24 #[.slice p 0 cap] w fun e w' => e = .returned (.tuple #[]) ∧ w' = w := Any.slices_Sort_int_none Tryd.lays189 p cap w
def Tryd.laysSF_ren : Go.Shelf.Ren := ⟨fun | 6 => 66 | 15 => 38 | 14 => 80 | 28 => 59 | 29 => 60 | 20 => 89 | 21 => 90 | 22 => 91 | 23 => 92 | 24 => 93 | 25 => 94 | 26 => 95 | 27 => 96 | 46 => 101 | 47 => 71 | 48 => 72 | 49 => 102 | 50 => 103 | 57 => 106 | n => n, fun | 22 => 26 | 24 => 31 | 25 => 28 | 3 => 3 | 39 => 73 | 0 => 0 | 53 => 93 | 55 => 95 | 4 => 4 | 46 => 86 | 45 => 85 | 50 => 90 | 5 => 5 | 9 => 9 | 66 => 111 | 70 => 115 | 76 => 123 | 77 => 124 | n => n, fun | n => n⟩
theorem Tryd.laysSF : Go.Proofs.SlLaysF0.n6 Tryd.prog Tryd.laysSF_ren := {
  mixed := by kernel_rfl
  f6 := ⟨Tryd.f66.name, by decide, Tryd.func66.trans (congrArg some (by kernel_rfl))⟩
  f14 := ⟨Tryd.f80.name, by decide, Tryd.func80.trans (congrArg some (by kernel_rfl))⟩
  f15 := Tryd.func38.trans (congrArg some (by kernel_rfl))
  f20 := ⟨Tryd.f89.name, by decide, Tryd.func89.trans (congrArg some (by kernel_rfl))⟩
  f21 := ⟨Tryd.f90.name, by decide, Tryd.func90.trans (congrArg some (by kernel_rfl))⟩
  f22 := ⟨Tryd.f91.name, by decide, Tryd.func91.trans (congrArg some (by kernel_rfl))⟩
  f23 := ⟨Tryd.f92.name, by decide, Tryd.func92.trans (congrArg some (by kernel_rfl))⟩
  f24 := ⟨Tryd.f93.name, by decide, Tryd.func93.trans (congrArg some (by kernel_rfl))⟩
  f25 := ⟨Tryd.f94.name, by decide, Tryd.func94.trans (congrArg some (by kernel_rfl))⟩
  f26 := ⟨Tryd.f95.name, by decide, Tryd.func95.trans (congrArg some (by kernel_rfl))⟩
  f27 := ⟨Tryd.f96.name, by decide, Tryd.func96.trans (congrArg some (by kernel_rfl))⟩
  f28 := Tryd.func59.trans (congrArg some (by kernel_rfl))
  f29 := Tryd.func60.trans (congrArg some (by kernel_rfl))
  f46 := ⟨Tryd.f101.name, by decide, Tryd.func101.trans (congrArg some (by kernel_rfl))⟩
  f47 := Tryd.func71.trans (congrArg some (by kernel_rfl))
  f48 := Tryd.func72.trans (congrArg some (by kernel_rfl))
  f49 := ⟨Tryd.f102.name, by decide, Tryd.func102.trans (congrArg some (by kernel_rfl))⟩
  f50 := ⟨Tryd.f103.name, by decide, Tryd.func103.trans (congrArg some (by kernel_rfl))⟩
  f57 := ⟨Tryd.f106.name, by decide, Tryd.func106.trans (congrArg some (by kernel_rfl))⟩
  t0 := Tryd.underlying0
  a0 := Tryd.isAgg0
  z0 := Tryd.sizeOf0
  v0 := Tryd.zeroValue0
  t3 := Tryd.underlying3
  a3 := Tryd.isAgg3
  z3 := Tryd.sizeOf3
  v3 := Tryd.zeroValue3
  t4 := Tryd.underlying4
  a4 := Tryd.isAgg4
  z4 := Tryd.sizeOf4
  v4 := Tryd.zeroValue4
  t5 := Tryd.underlying5
  a5 := Tryd.isAgg5
  z5 := Tryd.sizeOf5
  v5 := Tryd.zeroValue5
  t9 := Tryd.underlying9
  a9 := Tryd.isAgg9
  z9 := Tryd.sizeOf9
  v9 := Tryd.zeroValue9
  t22 := Tryd.underlying26
  a22 := Tryd.isAgg26
  z22 := Tryd.sizeOf26
  v22 := Tryd.zeroValue26
  t25 := Tryd.underlying28
  a25 := Tryd.isAgg28
  z25 := Tryd.sizeOf28
  v25 := Tryd.zeroValue28
  t39 := Tryd.underlying73
  a39 := Tryd.isAgg73
  z39 := Tryd.sizeOf73
  v39 := Tryd.zeroValue73
  t45 := Tryd.underlying85
  a45 := Tryd.isAgg85
  z45 := Tryd.sizeOf85
  v45 := Tryd.zeroValue85
  t46 := Tryd.underlying86
  a46 := Tryd.isAgg86
  z46 := Tryd.sizeOf86
  v46 := Tryd.zeroValue86
  t50 := Tryd.underlying90
  a50 := Tryd.isAgg90
  z50 := Tryd.sizeOf90
  v50 := Tryd.zeroValue90
  t53 := Tryd.underlying93
  a53 := Tryd.isAgg93
  z53 := Tryd.sizeOf93
  v53 := Tryd.zeroValue93
  t55 := Tryd.underlying95
  a55 := Tryd.isAgg95
  z55 := Tryd.sizeOf95
  v55 := Tryd.zeroValue95
  t66 := Tryd.underlying111
  a66 := Tryd.isAgg111
  z66 := Tryd.sizeOf111
  v66 := Tryd.zeroValue111
  t70 := Tryd.underlying115
  a70 := Tryd.isAgg115
  z70 := Tryd.sizeOf115
  v70 := Tryd.zeroValue115
  t76 := Tryd.underlying123
  a76 := Tryd.isAgg123
  z76 := Tryd.sizeOf123
  v76 := Tryd.zeroValue123
  t77 := Tryd.underlying124
  a77 := Tryd.isAgg124
  z77 := Tryd.sizeOf124
  v77 := Tryd.zeroValue124 }
end Go.Proofs

namespace Go.PF
open Go.RowKit
theorem SL.getT {F : Nat → Prop} {w : World} {ad : Addr} {n cap : Nat} {l : List ByteArray} (h : SL strT F w (.slice (some ad) n cap) l) {i : Nat} {x : ByteArray} (hx : l[i]? = some x) : w.cell? (ad.add ((i : Int).toNat * 1)) = some (.string x) := by
  obtain ⟨ad', cs, h1, _, ⟨rfl, _⟩, hc⟩ := h.at hx
  cases h1
  have := hc 0 (.string x) rfl
  simpa [strT, Addr.add] using this
theorem SL.sizeT {F : Nat → Prop} {w : World} {v : Value} {l : List ByteArray} (h : SL strT F w v l) : ∀ x ∈ l, x.size ≤ 9223372036854775807 := fun x hx => by
  obtain ⟨A, cap, _, _, _, h3⟩ := h
  obtain ⟨i, hi, he⟩ := List.getElem_of_mem hx
  obtain ⟨_, _, _, _, _, hr⟩ := h3 i x (by rw [← he]; exact List.getElem?_eq_getElem hi)
  exact hr.2
end Go.PF
namespace Go.Proofs.YthjcgmjcpmodlaaDoor
open Go.PF Go.RowKit Go.Ord

theorem listB (a b : ByteArray) : (a.toList == b.toList) = true ↔ a = b := by
  rw [beq_iff_eq]
  constructor
  · intro h
    rw [ByteArray.toList_eq, ByteArray.toList_eq] at h
    exact ByteArray.ext (Array.ext' h)
  · rintro rfl; rfl
noncomputable def sK : GKey Tryd.prog 9 ByteArray := nowKey (strKey Tryd.prog 9 Tryd.underlying9) (fun a b => listB a b)
theorem beqL (a b : ByteArray) : (a.toList == b.toList) = decide (a = b) := by
  by_cases h : a = b
  · rw [(listB a b).2 h, decide_eq_true h]
  · rw [decide_eq_false h]
    cases h' : (a.toList == b.toList) with
    | true => exact absurd ((listB a b).1 h') h
    | false => rfl

theorem isLabel1_c {w : World} {x : Nat} : Gives Tryd.prog 46 #[.int .i32 (x : Int)] w fun u w' => Below w.heap.size w w' ∧ u = .bool (othR x) := by
  refine gives_of (vs := [.int .i32 (x : Int)]) [(0, none, _)] Tryd.func46 rfl Tryd.ntmps46 rfl rfl ?_
  refine CW.seq (CW.region ?_)
  refine TW.assign rfl rfl rfl ct ?_
  refine TW.nil (KW.pick [0, 2] [(0, _, _), (2, _, _)] rfl (KW.then_ ?_))
  refine CW.seq (CW.region ?_)
  refine TW.move rfl rfl rfl ct ?_
  refine TW.lss rfl rfl rfl ct rfl ct ?_
  refine TW.move rfl rfl rfl ct ?_
  refine TW.move rfl rfl rfl ct ?_
  refine TW.gtr rfl rfl rfl id rfl ct ?_
  refine TW.pickOr rfl rfl rfl ct rfl pOr0 ?_
  refine TW.move rfl rfl rfl ct ?_
  refine TW.move rfl rfl rfl ct ?_
  refine TW.lss rfl rfl rfl id rfl ct ?_
  refine TW.move rfl rfl rfl id ?_
  refine TW.move rfl rfl rfl ct ?_
  refine TW.gtr rfl rfl rfl id rfl ct ?_
  refine TW.pickOr rfl rfl rfl id rfl pOr1 ?_
  refine TW.pickAnd rfl rfl rfl ct rfl pAnd0 ?_
  refine TW.move rfl rfl rfl ct ?_
  refine TW.move rfl rfl rfl ct ?_
  refine TW.neq rfl rfl rfl id rfl ct ?_
  refine TW.pickAnd rfl rfl rfl ct rfl pAnd0 ?_
  refine TW.assign rfl rfl rfl ct ?_
  refine TW.nil (KW.pick [0, 2] [(0, _, _), (2, _, _)] rfl (KW.then_ ?_))
  refine CW.ret ?_
  refine ret1 Tryd.results46 rfl (⟨Below.refl _ _, ?_⟩)
  unfold othR
  by_cases h1 : x < 65 <;> by_cases h2 : 90 < x <;> by_cases h3 : x < 48 <;> by_cases h4 : 57 < x <;> by_cases h5 : x = 46 <;> simp [h1, h2, h3, h4, h5] <;> omega

theorem containsR_c {w : World} {s : ByteArray} : Gives Tryd.prog 47 #[.string s, .func (.func 46) #[] #[]] w fun u w' => Below w.heap.size w w' ∧ u = .bool (!dec (∀ i, i < s.size → okB (byteAt s i))) := by
  refine Calls.mono (Tryd.strings_ContainsFunc_grows 46 #[] (fun args w => run_enters en46 args w) othR s w fun W x _ _ => Calls.mono (isLabel1_c (w := W) (x := x)) ?_) ?_
  · rintro e w' ⟨u, rfl, h1, rfl⟩
    exact ⟨rfl, h1⟩
  · rintro e w' ⟨rfl, h⟩
    exact ⟨_, rfl, h, by rw [lab_idx]⟩

theorem isLabel_c {w : World} {s : ByteArray} : Gives Tryd.prog 35 #[.string s] w fun u w' => Below w.heap.size w w' ∧ u = .bool (dec (isLab s)) := by
  refine gives_of (vs := [.string s]) [(0, none, _)] Tryd.func35 rfl Tryd.ntmps35 rfl rfl ?_
  refine CW.seq (CW.region ?_)
  refine TW.assign rfl rfl rfl ct ?_
  refine TW.nil (KW.pick [0, 2] [(0, _, _), (2, _, _)] rfl (KW.then_ ?_))
  refine CW.seq (CW.seq (CW.region ?_))
  refine TW.move rfl rfl rfl ct ?_
  refine TW.lenString rfl rfl Tryd.underlying9 rfl ct ?_
  refine TW.lss rfl rfl rfl ct rfl ct ?_
  refine TW.move rfl rfl rfl ct ?_
  refine TW.move rfl rfl rfl ct ?_
  refine TW.lenString rfl rfl Tryd.underlying9 rfl id ?_
  refine TW.gtr rfl rfl rfl id rfl ct ?_
  refine TW.pickOr rfl rfl rfl ct rfl pOr0 ?_
  refine TW.nil (KW.pick [0, 2, 11] [(0, _, _), (2, _, _), (11, _, _)] rfl (KW.then_ ?_))
  refine CW.cond rfl (fun hbad => ?_) (fun hgood => ?_)
  · refine CW.seq (CW.region ?_)
    refine TW.assign rfl rfl rfl ct ?_
    refine TW.nil (KW.pick [0, 2] [(0, _, _), (2, _, _)] rfl (KW.then_ ?_))
    refine CW.ret (KW.thenR ?_)
    refine ret1 Tryd.results35 rfl (⟨Below.refl _ _, ?_⟩)
    rw [dec_neg fun h => ?_]
    have h1 := h.1
    have h2 := h.2.1
    simp at hbad
    omega
  have hs : 1 ≤ s.size ∧ s.size ≤ 20 := by simp at hgood; omega
  refine CW.skip (KW.then_ (CW.seq (CW.region ?_)))
  refine TW.assign rfl rfl rfl ct ?_
  refine TW.nil (KW.pick [0, 2, 3] [(0, _, _), (2, _, _), (3, _, _)] rfl (KW.then_ ?_))
  refine CW.seq (CW.region ?_)
  refine TW.move rfl rfl rfl ct ?_
  refine TW.move rfl rfl rfl ct ?_
  refine TW.call0 (cap := []) rfl rfl en47 rfl (Args.cons rfl ct (Args.cons rfl ct Args.nil)) (containsR_c) ?_
  rintro y w1 ⟨c1, rfl⟩
  refine TW.not rfl rfl rfl ct ?_
  refine TW.assign rfl rfl rfl ct ?_
  refine TW.nil (KW.pick [0, 2, 3] [(0, _, _), (2, _, _), (3, _, _)] rfl (KW.then_ ?_))
  refine CW.ret ?_
  refine ret1 Tryd.results35 rfl (⟨c1, ?_⟩)
  by_cases h : ∀ i, i < s.size → okB (byteAt s i)
  · rw [dec_pos h, dec_pos ⟨hs.1, hs.2, h⟩]; rfl
  · rw [dec_neg h, dec_neg fun h' => h h'.2.2]; rfl

/-! ### a search whose question has a state -/
theorem indexT_c {w : World} {v : Value} {l : List ByteArray} {F : Nat → Prop} {k : FuncId} {caps : List Value} (J : List ByteArray → World → Prop) (Jx : World → Prop) (hl : ∀ pre W, J pre W → SL strT F W v l) (hk : enters Tryd.prog k = true) (h0 : J [] w)
    (hp : ∀ pre x suf W, l = pre ++ x :: suf → J pre W → Gives Tryd.prog k (.string x :: caps).toArray W fun u W' => ∃ b, u = .bool b ∧ (b = true → Jx W') ∧ (b = false → J (pre ++ [x]) W')) :
    Gives Tryd.prog 69 #[v, .func (.func k) #[] caps.toArray] w fun u w' => (u = .int .i64 (-1) ∧ J l w') ∨ ∃ i : Nat, u = .int .i64 (i : Int) ∧ Jx w' := by
  obtain ⟨A, cap, rfl, _⟩ := (hl _ _ h0).form
  have hmax := (hl _ _ h0).len.2.2
  refine gives_of (vs := [.slice A l.length cap, .func (.func k) #[] caps.toArray]) [(0, none, _), (1, none, _)] Tryd.func69 rfl Tryd.ntmps69 rfl rfl ?_
  refine CW.seq (CW.region ?_)
  refine TW.assign rfl rfl rfl ct ?_
  refine TW.nil (KW.pick [0, 1, 4] [(0, _, _), (1, _, _), (4, _, _)] rfl (KW.then_ ?_))
  refine CW.seq (CW.seq (CW.region ?_))
  refine TW.move rfl rfl rfl ct ?_
  refine TW.lenSlice rfl rfl Tryd.underlying33 rfl ct ?_
  refine TW.move rfl rfl rfl ct ?_
  refine TW.nil (KW.pick [0, 1, 4, 7, 8] [(0, _, _), (1, _, _), (4, _, _), (7, _, _), (8, _, _)] rfl (KW.then_ ?_))
  refine CW.block ?_
  refine CW.loopS (fun i : Nat => [(0, none, .slice A l.length cap), (1, none, .func (.func k) #[] caps.toArray), (7, none, .int .i64 (l.length : Int)), (8, none, .int .i64 (i : Int))])
    (fun i W => i ≤ l.length ∧ J (l.take i) W) (fun i => l.length - i) 0 [0, 1, 7, 8] ⟨by omega, h0⟩ rfl ?_
  rintro i W ⟨hi, hJ⟩
  refine CW.seq (CW.region ?_)
  refine TW.lss rfl rfl rfl ct rfl ct ?_
  refine TW.nil (KW.pick [0, 1, 7, 8, 9] [(0, _, _), (1, _, _), (7, _, _), (8, _, _), (9, _, _)] rfl (KW.then_ ?_))
  refine CW.seq ?_
  refine CW.condP rfl (fun hlt => ?_) (fun hge => ?_)
  · obtain ⟨x, hx, hxm⟩ := getx (l := l) (k := i) (by omega)
    have hlW := hl _ _ hJ
    obtain ⟨ad, rfl⟩ := hlW.addr (by omega)
    obtain ⟨hil, hie⟩ := List.getElem?_eq_some_iff.1 hx
    have hcut : l = l.take i ++ x :: l.drop (i + 1) := by rw [← hie, ← List.drop_eq_getElem_cons hil, List.take_append_drop]
    refine CW.skip (KW.then_ (CW.seq (CW.block (CW.seq (CW.region ?_)))))
    refine TW.move rfl rfl rfl ct ?_
    refine TW.assign rfl rfl rfl ct ?_
    refine TW.nil (KW.pick [0, 1, 5, 7, 8] [(0, _, _), (1, _, _), (5, _, _), (7, _, _), (8, _, _)] rfl (KW.then_ ?_))
    refine CW.seq (CW.region ?_)
    refine TW.move rfl rfl rfl ct ?_
    refine TW.move rfl rfl rfl ct ?_
    refine TW.move rfl rfl rfl ct ?_
    refine TW.indexAddr rfl rfl Tryd.underlying33 sz9 rfl ct rfl ct (fun _ => by (try dsimp only); omega) ?_
    refine TW.load rfl rfl one9 rfl ct (fun _ => hlW.getT hx) ?_
    refine TW.call0 rfl rfl hk rfl (Args.cons rfl ct Args.nil) (hp (l.take i) x (l.drop (i + 1)) W hcut hJ) ?_
    rintro u w1 ⟨b, rfl, hb1, hb2⟩
    refine TW.nil (KW.pick [0, 1, 5, 7, 8, 16] [(0, _, _), (1, _, _), (5, _, _), (7, _, _), (8, _, _), (16, _, _)] rfl (KW.then_ ?_))
    refine CW.cond rfl (fun hyes => ?_) (fun hno => ?_)
    · refine CW.seq (CW.region ?_)
      refine TW.move rfl rfl rfl ct ?_
      refine TW.assign rfl rfl rfl ct ?_
      refine TW.nil (KW.pick [0, 1, 4, 5, 7, 8] [(0, _, _), (1, _, _), (4, _, _), (5, _, _), (7, _, _), (8, _, _)] rfl (KW.then_ ?_))
      refine CW.ret (KW.blockR (KW.thenR (KW.thenR (KW.blockR (KW.thenR ?_)))))
      refine ret1 Tryd.results69 rfl (.inr ⟨i, rfl, hb1 hyes⟩)
    · refine CW.skip (KW.blockN (KW.then_ (CW.region ?_)))
      refine TW.add rfl rfl rfl ct rfl ct (fun _ => by (try dsimp only); omega) ?_
      refine TW.move rfl rfl rfl ct ?_
      refine TW.nil (KW.pick [0, 1, 5, 7, 8] [(0, _, _), (1, _, _), (5, _, _), (7, _, _), (8, _, _)] rfl ?_)
      refine KW.round (i + 1) [0, 1, 7, 8] rfl ⟨by omega, ?_⟩ (by omega)
      have : l.take (i + 1) = l.take i ++ [x] := by rw [List.take_add_one, hx]; rfl
      rw [this]
      exact hb2 hno
  · have hie : i = l.length := by omega
    subst hie
    rw [List.take_length] at hJ
    refine CW.exit (KW.thenX (KW.thenX (KW.blockX (KW.then_ (CW.seq (CW.region ?_))))))
    refine TW.assign rfl rfl rfl ct ?_
    refine TW.nil (KW.pick [0, 1, 4, 7, 8] [(0, _, _), (1, _, _), (4, _, _), (7, _, _), (8, _, _)] rfl (KW.then_ ?_))
    refine CW.ret ?_
    refine ret1 Tryd.results69 rfl (.inl ⟨rfl, hJ⟩)

theorem containsT_c {w : World} {v : Value} {l : List ByteArray} {F : Nat → Prop} {k : FuncId} {caps : List Value} (J : List ByteArray → World → Prop) (Jx : World → Prop) (hl : ∀ pre W, J pre W → SL strT F W v l) (hk : enters Tryd.prog k = true) (h0 : J [] w)
    (hp : ∀ pre x suf W, l = pre ++ x :: suf → J pre W → Gives Tryd.prog k (.string x :: caps).toArray W fun u W' => ∃ b, u = .bool b ∧ (b = true → Jx W') ∧ (b = false → J (pre ++ [x]) W')) :
    Gives Tryd.prog 48 #[v, .func (.func k) #[] caps.toArray] w fun u w' => (u = .bool false ∧ J l w') ∨ (u = .bool true ∧ Jx w') := by
  refine gives_of (vs := [v, .func (.func k) #[] caps.toArray]) [(0, none, _), (1, none, _)] Tryd.func48 rfl Tryd.ntmps48 rfl rfl ?_
  refine CW.seq (CW.region ?_)
  refine TW.assign rfl rfl rfl ct ?_
  refine TW.nil (KW.pick [0, 1, 4] [(0, _, _), (1, _, _), (4, _, _)] rfl (KW.then_ ?_))
  refine CW.seq (CW.region ?_)
  refine TW.move rfl rfl rfl ct ?_
  refine TW.move rfl rfl rfl ct ?_
  refine TW.call0 (cap := []) rfl rfl en69 rfl (Args.cons rfl ct (Args.cons rfl ct Args.nil)) (indexT_c J Jx hl hk h0 hp) ?_
  rintro u w1 h1
  rcases h1 with ⟨rfl, h1⟩ | ⟨i, rfl, h1⟩
  · skip
    refine TW.geq rfl rfl rfl ct rfl ct ?_
    refine TW.assign rfl rfl rfl ct ?_
    refine TW.nil (KW.pick [0, 1, 4] [(0, _, _), (1, _, _), (4, _, _)] rfl (KW.then_ ?_))
    refine CW.ret ?_
    refine ret1 Tryd.results48 rfl (.inl ⟨by rw [decide_eq_false (by omega)], h1⟩)
  · skip
    refine TW.geq rfl rfl rfl ct rfl ct ?_
    refine TW.assign rfl rfl rfl ct ?_
    refine TW.nil (KW.pick [0, 1, 4] [(0, _, _), (1, _, _), (4, _, _)] rfl (KW.then_ ?_))
    refine CW.ret ?_
    refine ret1 Tryd.results48 rfl (.inr ⟨by rw [decide_eq_true (by omega)], h1⟩)

/-! ### different labels -/
def SeenIs (w : World) (b : Nat) (ys : List ByteArray) : Prop := ∃ m, MapL sK w b m ∧ (∀ y, (∃ v, (y, v) ∈ m) ↔ y ∈ ys) ∧ ∀ p ∈ m, p.2 = .bool true
theorem SeenIs.put {w' : World} {b : Nat} {ys : List ByteArray} {m : List (ByteArray × Value)} (x : ByteArray) (hm : ∀ y, (∃ v, (y, v) ∈ m) ↔ y ∈ ys) (ht : ∀ p ∈ m, p.2 = .bool true) (h : MapL sK w' b (lput m x (.bool true))) : SeenIs w' b (ys ++ [x]) := by
  refine ⟨_, h, fun y => ?_, fun p hp => ?_⟩
  · rw [List.mem_append, List.mem_singleton]
    constructor
    · rintro ⟨v, hv⟩
      rcases mem_lput.1 hv with e | ⟨h1, _⟩
      · cases e; exact .inr rfl
      · exact .inl ((hm y).1 ⟨v, h1⟩)
    · intro hy
      by_cases e : y = x
      · subst e; exact ⟨_, mem_lput.2 (.inl rfl)⟩
      · obtain ⟨v, hv⟩ := (hm y).2 (hy.resolve_right e)
        exact ⟨v, mem_lput.2 (.inr ⟨hv, e⟩)⟩
  · rcases mem_lput.1 hp with e | ⟨h1, _⟩
    · rw [e]
    · exact ht p h1

set_option maxRecDepth 20000 in
theorem different1_c {w : World} {g b : Nat} {ys : List ByteArray} {x : ByteArray} (hg : Blk w g 82 [.map (some b)]) (hS : SeenIs w b ys) :
    Gives Tryd.prog 49 #[.string x, .pointer (some ⟨g, 0, none⟩)] w fun u w' => ∃ q, u = .bool q ∧ But b w w' ∧ w.heap.size ≤ w'.heap.size ∧ (q = true → ¬ (isLab x ∧ x ∉ ys)) ∧ (q = false → (isLab x ∧ x ∉ ys) ∧ SeenIs w' b (ys ++ [x])) := by
  obtain ⟨m, hm, hin, ht⟩ := hS
  refine gives_of (vs := [.string x, .pointer (some ⟨g, 0, none⟩)]) [(0, none, _), (1, none, _)] Tryd.func49 rfl Tryd.ntmps49 rfl rfl ?_
  refine CW.seq (CW.region ?_)
  refine TW.assign rfl rfl rfl ct ?_
  refine TW.nil (KW.pick [0, 1, 3] [(0, _, _), (1, _, _), (3, _, _)] rfl (KW.then_ ?_))
  refine CW.seq (CW.seq (CW.region ?_))
  refine TW.move rfl rfl rfl ct ?_
  refine TW.call0 (cap := []) rfl rfl en35 rfl (Args.cons rfl ct Args.nil) (isLabel_c) ?_
  rintro y w1 ⟨c1, rfl⟩
  have hg1 := hg.next c1
  have hm1 := hm.below c1
  refine TW.not rfl rfl rfl ct ?_
  refine TW.move rfl rfl rfl ct ?_
  by_cases hlab : isLab x
  · rw [dec_pos hlab]
    refine TW.known rfl rfl ?_
    refine TW.load rfl rfl one82 rfl ct (fun _ => hg1.cell 0) ?_
    refine TW.known rfl rfl ?_
    refine TW.move rfl rfl rfl ct ?_
    refine TW.known rfl rfl ?_
    refine TW.lookup1 sK x rfl rfl Tryd.underlying82 ze4 rfl rfl hm1 ?_
    intro v hv
    have hv' : v = .bool (dec (x ∈ ys)) := by
      rcases hv with h | ⟨h, rfl⟩
      · rw [dec_pos ((hin x).1 ⟨v, h⟩)]
        exact ht _ h
      · rw [dec_neg fun hx => ?_]
        obtain ⟨u, hu⟩ := (hin x).2 hx
        exact h _ hu rfl
    subst hv'
    refine TW.pickOr rfl rfl rfl ct rfl pT ?_
    refine TW.nil (KW.pick [0, 1, 3, 11] [(0, _, _), (1, _, _), (3, _, _), (11, _, _)] rfl (KW.then_ ?_))
    refine CW.cond rfl (fun hyes => ?_) (fun hno => ?_)
    · have hy : x ∈ ys := dec_iff.1 hyes
      refine CW.seq (CW.region ?_)
      refine TW.assign rfl rfl rfl ct ?_
      refine TW.nil (KW.pick [0, 1, 3] [(0, _, _), (1, _, _), (3, _, _)] rfl (KW.then_ ?_))
      refine CW.ret (KW.thenR ?_)
      refine ret1 Tryd.results49 rfl (⟨true, rfl, But.of_below c1, c1.size, fun _ h => h.2 hy, fun h => (by cases h)⟩)
    · have hy : x ∉ ys := fun h => by rw [dec_pos h] at hno; simp at hno
      refine CW.skip (KW.then_ (CW.seq (CW.region ?_)))
      refine TW.load rfl rfl one82 rfl ct (fun _ => hg1.cell 0) ?_
      refine TW.move rfl rfl rfl ct ?_
      refine TW.mapUpdateL sK x rfl Tryd.underlying82 rfl rfl rfl hm1 ?_
      intro w2 hsz2 hb2 hm2
      refine TW.nil (KW.pick [0, 1, 3] [(0, _, _), (1, _, _), (3, _, _)] rfl (KW.then_ ?_))
      refine CW.seq (CW.region ?_)
      refine TW.assign rfl rfl rfl ct ?_
      refine TW.nil (KW.pick [0, 1, 3] [(0, _, _), (1, _, _), (3, _, _)] rfl (KW.then_ ?_))
      refine CW.ret ?_
      refine ret1 Tryd.results49 rfl (⟨false, rfl, (But.of_below c1).trans hb2, by have := c1.size; omega, fun h => (by cases h), fun _ => ⟨⟨hlab, hy⟩, SeenIs.put x hin ht hm2⟩⟩)
  · rw [dec_neg hlab]
    refine TW.dead (.bool false) rfl (by simp [Cnd]) rfl ?_
    refine TW.dead (.bool false) rfl (by simp [Cnd]) rfl ?_
    refine TW.dead (.bool false) rfl (by simp [Cnd]) rfl ?_
    refine TW.pickOr rfl rfl rfl ct rfl pOr0 ?_
    refine TW.nil (KW.pick [0, 1, 3, 11] [(0, _, _), (1, _, _), (3, _, _), (11, _, _)] rfl (KW.then_ ?_))
    refine CW.cond rfl (fun hyes => ?_) (fun hno => ?_)
    · refine CW.seq (CW.region ?_)
      refine TW.assign rfl rfl rfl ct ?_
      refine TW.nil (KW.pick [0, 1, 3] [(0, _, _), (1, _, _), (3, _, _)] rfl (KW.then_ ?_))
      refine CW.ret (KW.thenR ?_)
      refine ret1 Tryd.results49 rfl (⟨true, rfl, But.of_below c1, c1.size, fun _ h => hlab h.1, fun h => (by cases h)⟩)
    · exact absurd hno (by simp)
end Go.Proofs.YthjcgmjcpmodlaaDoor

namespace Go.Proofs.YthjcgmjcpmodlaaDoor
open Go.PF Go.RowKit Go.Ord

/-! ### well-formed records -/
set_option maxRecDepth 20000 in
theorem different_c {w : World} {v : Value} {l : List ByteArray} {x : ByteArray} {F : Nat → Prop} (hl : SL strT F w v l) :
    Gives Tryd.prog 36 #[.string x, v] w fun u w' => Below w.heap.size w w' ∧ u = .bool (dec ((∀ c ∈ l, isLab c ∧ c ≠ x) ∧ l.Nodup)) := by
  obtain ⟨A, cap, rfl, _⟩ := hl.form
  refine gives_of (vs := [.string x, .slice A l.length cap]) [(0, none, _), (1, none, _)] Tryd.func36 rfl Tryd.ntmps36 rfl rfl ?_
  refine CW.seq (CW.region ?_)
  refine TW.assign rfl rfl rfl ct ?_
  refine TW.nil (KW.pick [0, 1, 4] [(0, _, _), (1, _, _), (4, _, _)] rfl (KW.then_ ?_))
  refine CW.seq (CW.region ?_)
  refine TW.makeMapL sK rfl rfl ?_
  rintro b w1 hbw hw1 hb1 hM1
  refine TW.move rfl rfl rfl ct ?_
  refine TW.insertL sK x (vz := .bool true) rfl Tryd.underlying82 rfl rfl rfl hM1 ?_
  rintro w2 hw2 hbut2 hM2
  refine TW.move rfl rfl rfl ct ?_
  refine TW.newVar1 rfl zc82 rfl sz82 rfl ?_
  rintro g w3 f3
  refine TW.nil (KW.pick [0, 1, 4, 5] [(0, _, _), (1, _, _), (4, _, _), (5, _, _)] rfl (KW.then_ ?_))
  refine CW.seq (CW.region ?_)
  refine TW.move rfl rfl rfl ct ?_
  refine TW.makeFunc rfl rfl (Args.cons rfl ct Args.nil) ?_
  have hg3 := f3.at_
  have hbel : Below w.heap.size w w2 := But.below hb1 hbut2 (by omega)
  have hS3 : SeenIs w3 b [x] := by
    refine ⟨_, hM2.below f3.below, fun y => ?_, fun p hp => ?_⟩
    · rw [List.mem_singleton]
      constructor
      · rintro ⟨u, hu⟩
        rcases mem_lput.1 hu with e | ⟨h, _⟩
        · cases e; rfl
        · cases h
      · rintro rfl
        exact ⟨_, mem_lput.2 (.inl rfl)⟩
    · rcases mem_lput.1 hp with e | ⟨h, _⟩
      · rw [e]
      · cases h
  have hbel3 := hbel.step f3.below
  have hgb : g ≠ b := by have := hM2.lt; omega
  have hpred : ∀ (pre : List ByteArray) (y : ByteArray) (suf : List ByteArray) (W : World), l = pre ++ y :: suf → (But b w3 W ∧ w3.heap.size ≤ W.heap.size ∧ ((∀ c ∈ pre, isLab c ∧ c ≠ x) ∧ pre.Nodup) ∧ SeenIs W b ([x] ++ pre)) → Gives Tryd.prog 49 #[.string y, .pointer (some ⟨g, 0, none⟩)] W fun u W' => ∃ q, u = .bool q ∧ (q = true → But b w3 W' ∧ w3.heap.size ≤ W'.heap.size ∧ ¬ ((∀ c ∈ l, isLab c ∧ c ≠ x) ∧ l.Nodup)) ∧ (q = false → But b w3 W' ∧ w3.heap.size ≤ W'.heap.size ∧ ((∀ c ∈ pre ++ [y], isLab c ∧ c ≠ x) ∧ (pre ++ [y]).Nodup) ∧ SeenIs W' b ([x] ++ (pre ++ [y]))) := by
    rintro pre y suf W hcut ⟨j1, j2, ⟨j3, j4⟩, j5⟩
    refine (different1_c (g := g) (j1.blk f3.blk hgb) j5).mono ?_
    rintro u W' ⟨q, rfl, k1, k2, k3, k4⟩
    refine ⟨q, rfl, fun hq => ⟨j1.trans k1, by omega, fun ⟨h1, h2⟩ => k3 hq ?_⟩, fun hq => ?_⟩
    · rw [hcut] at h1 h2
      have hy := h1 y (by simp)
      refine ⟨hy.1, fun hm => ?_⟩
      rcases List.mem_append.1 hm with h | h
      · rw [List.mem_singleton] at h
        exact hy.2 h
      · exact (List.nodup_append.1 h2).2.2 y h y (by simp) rfl
    · obtain ⟨⟨h1, h2⟩, h3⟩ := k4 hq
      refine ⟨j1.trans k1, by omega, ⟨fun c hc => ?_, ?_⟩, by simpa using h3⟩
      · rcases List.mem_append.1 hc with h | h
        · exact j3 c h
        · rw [List.mem_singleton] at h
          subst h
          exact ⟨h1, fun e => h2 (by simp [e])⟩
      · refine List.nodup_append.2 ⟨j4, by simp, fun a ha c hc e => ?_⟩
        rw [List.mem_singleton] at hc
        subst hc
        subst e
        exact h2 (List.mem_append_right _ ha)
  refine TW.call0 (cap := []) rfl rfl en48 rfl (Args.cons rfl ct (Args.cons rfl ct Args.nil)) (containsT_c (F := F) (caps := [.pointer (some ⟨g, 0, none⟩)]) (fun pre W => But b w3 W ∧ w3.heap.size ≤ W.heap.size ∧ ((∀ c ∈ pre, isLab c ∧ c ≠ x) ∧ pre.Nodup) ∧ SeenIs W b ([x] ++ pre)) (fun W => But b w3 W ∧ w3.heap.size ≤ W.heap.size ∧ ¬ ((∀ c ∈ l, isLab c ∧ c ≠ x) ∧ l.Nodup)) (fun pre W h => hl.below (But.below hbel3 h.1 (by omega))) en49 ⟨But.of_below (Below.refl _ _), Nat.le_refl _, ⟨fun c hc => (by cases hc), List.Pairwise.nil⟩, by simpa using hS3⟩ hpred) ?_
  rintro u4 w4 h4
  rcases h4 with ⟨rfl, j1, j2, j3, _⟩ | ⟨rfl, j1, j2, j3⟩
  · skip
    refine TW.not rfl rfl rfl ct ?_
    refine TW.assign rfl rfl rfl ct ?_
    refine TW.nil (KW.pick [0, 1, 4, 5] [(0, _, _), (1, _, _), (4, _, _), (5, _, _)] rfl (KW.then_ ?_))
    refine CW.ret ?_
    refine ret1 Tryd.results36 rfl (⟨But.below hbel3 j1 (by omega), by rw [dec_pos j3]; rfl⟩)
  · skip
    refine TW.not rfl rfl rfl ct ?_
    refine TW.assign rfl rfl rfl ct ?_
    refine TW.nil (KW.pick [0, 1, 4, 5] [(0, _, _), (1, _, _), (4, _, _), (5, _, _)] rfl (KW.then_ ?_))
    refine CW.ret ?_
    refine ret1 Tryd.results36 rfl (⟨But.below hbel3 j1 (by omega), by rw [dec_neg j3]; rfl⟩)

theorem complete1_c {w : World} {n m : Int} : Gives Tryd.prog 34 #[.int .i64 n, .int .i64 m] w fun u w' => Below w.heap.size w w' ∧ u = .bool (decide (0 ≤ n ∧ n ≤ m)) := by
  refine gives_of (vs := [.int .i64 n, .int .i64 m]) [(0, none, _), (1, none, _)] Tryd.func34 rfl Tryd.ntmps34 rfl rfl ?_
  refine CW.seq (CW.region ?_)
  refine TW.assign rfl rfl rfl ct ?_
  refine TW.nil (KW.pick [0, 1, 4] [(0, _, _), (1, _, _), (4, _, _)] rfl (KW.then_ ?_))
  refine CW.seq (CW.region ?_)
  refine TW.move rfl rfl rfl ct ?_
  refine TW.geq rfl rfl rfl ct rfl ct ?_
  refine TW.move rfl rfl rfl ct ?_
  refine TW.move rfl rfl rfl ct ?_
  refine TW.move rfl rfl rfl ct ?_
  refine TW.leq rfl rfl rfl id rfl id ?_
  refine TW.pickAnd rfl rfl rfl ct rfl pAnd0 ?_
  refine TW.assign rfl rfl rfl ct ?_
  refine TW.nil (KW.pick [0, 1, 4] [(0, _, _), (1, _, _), (4, _, _)] rfl (KW.then_ ?_))
  refine CW.ret ?_
  refine ret1 Tryd.results34 rfl (⟨Below.refl _ _, by simp⟩)

set_option maxRecDepth 20000 in
theorem complete_c {w : World} {v : Value} {r : Rc} {F : Nat → Prop} (h : RcOK F w v r) :
    Gives Tryd.prog 22 #[.agg (rcV r v).toArray] w fun u w' => Below w.heap.size w w' ∧ u = .bool (dec (Comp r)) := by
  have hct := h.ct
  obtain ⟨A, cap, rfl, _⟩ := hct.form
  have hmax := hct.len.2.2
  refine gives_of (vs := [.agg (rcV r (.slice A r.cont.length cap)).toArray]) [(0, none, _)] Tryd.func22 rfl Tryd.ntmps22 rfl rfl ?_
  refine CW.seq (CW.region ?_)
  refine TW.box rfl rfl rfl rfl ?_
  rintro g1 w1 f1
  refine TW.assign rfl rfl rfl ct ?_
  refine TW.nil (KW.pick [0, 1, 2] [(0, _, _), (1, _, _), (2, _, _)] rfl (KW.then_ ?_))
  refine CW.seq (CW.region ?_)
  refine TW.assign rfl rfl rfl ct ?_
  refine TW.nil (KW.pick [0, 1, 2, 3] [(0, _, _), (1, _, _), (2, _, _), (3, _, _)] rfl (KW.then_ ?_))
  refine CW.seq (CW.seq (CW.region ?_))
  refine TW.move rfl rfl rfl ct ?_
  refine TW.fieldAddr rfl rfl fo35_0 rfl ct ?_
  refine TW.load rfl rfl one3 rfl ct (fun _ => f1.blk.fld rfl) ?_
  refine TW.callF rfl rfl en34 rfl ct (Args.cons rfl ct (Args.cons rfl ct Args.nil)) (fun _ => complete1_c) ?_
  rintro w2 b2
  refine TW.not rfl rfl rfl ct ?_
  refine TW.move rfl rfl rfl ct ?_
  refine TW.move rfl rfl rfl ct ?_
  refine TW.fieldAddr rfl rfl fo35_1 rfl ct ?_
  refine TW.load rfl rfl one3 rfl id (fun _ => (f1.blk.next b2).fld rfl) ?_
  refine TW.callF rfl rfl en34 rfl id (Args.cons rfl id (Args.cons rfl ct Args.nil)) (fun _ => complete1_c) ?_
  rintro w3 b3
  refine TW.not rfl rfl rfl id ?_
  refine TW.pickOr rfl rfl rfl ct rfl pOr0 ?_
  refine TW.move rfl rfl rfl ct ?_
  refine TW.move rfl rfl rfl ct ?_
  refine TW.fieldAddr rfl rfl fo35_3 rfl ct ?_
  refine TW.load rfl rfl one3 rfl id (fun _ => (f1.blk.next (b2.step b3)).fld rfl) ?_
  refine TW.callF rfl rfl en34 rfl id (Args.cons rfl id (Args.cons rfl ct Args.nil)) (fun _ => complete1_c) ?_
  rintro w4 b4
  refine TW.not rfl rfl rfl id ?_
  refine TW.pickOr rfl rfl rfl ct rfl pOr0 ?_
  refine TW.move rfl rfl rfl ct ?_
  refine TW.fieldAddr rfl rfl fo35_4 rfl ct ?_
  refine TW.load rfl rfl one9 rfl id (fun _ => (f1.blk.next ((b2.step b3).step b4)).fld rfl) ?_
  refine TW.callF (cap := []) rfl rfl en35 rfl ct (Args.cons rfl id Args.nil) (fun _ => isLabel_c) ?_
  rintro w5 b5
  refine TW.not rfl rfl rfl id ?_
  refine TW.pickOr rfl rfl rfl ct rfl pOr0 ?_
  refine TW.nil (KW.pick [0, 1, 2, 3, 28] [(0, _, _), (1, _, _), (2, _, _), (3, _, _), (28, _, _)] rfl (KW.then_ ?_))
  have b15 := ((b2.step b3).step b4).step b5
  have f5 := f1.blk.next b15
  have hbel := f1.below.step b15
  have hc5 := hct.below hbel
  refine CW.cond rfl (fun hbad => ?_) (fun hgood => ?_)
  · refine CW.seq (CW.region ?_)
    refine TW.assign rfl rfl rfl ct ?_
    refine TW.nil (KW.pick [0, 1, 2, 3] [(0, _, _), (1, _, _), (2, _, _), (3, _, _)] rfl (KW.then_ ?_))
    refine CW.ret (KW.thenR ?_)
    refine ret1 Tryd.results22 rfl (⟨hbel, ?_⟩)
    rw [dec_neg fun hc => ?_]
    have h1 := hc.lab
    have := hc.s1; have := hc.s2; have := hc.n1; have := hc.n2; have := hc.t1; have := hc.t2
    rw [dec_pos h1] at hbad
    simp [*] at hbad
  · have hq : (0 ≤ r.scn ∧ r.scn ≤ 1000000) ∧ (0 ≤ r.num ∧ r.num ≤ 1000000) ∧ (0 ≤ r.time ∧ r.time ≤ 1000000) ∧ isLab r.label := by
      by_cases hl : isLab r.label
      · rw [dec_pos hl] at hgood
        simp at hgood
        exact ⟨by omega, by omega, by omega, hl⟩
      · rw [dec_neg hl] at hgood
        simp at hgood
    obtain ⟨⟨s1, s2⟩, ⟨n1, n2⟩, ⟨t1, t2⟩, hlab⟩ := hq
    refine CW.skip (KW.then_ (CW.seq (CW.seq (CW.region ?_))))
    refine TW.fieldAddr rfl rfl fo35_2 rfl ct ?_
    refine TW.load rfl rfl one3 rfl ct (fun _ => f5.fld rfl) ?_
    refine TW.nil (KW.pick [0, 1, 2, 3, 30] [(0, _, _), (1, _, _), (2, _, _), (3, _, _), (30, _, _)] rfl (KW.then_ ?_))
    refine CW.block (CW.seq (CW.region ?_))
    refine TW.eql rfl rfl rfl ct rfl ct ?_
    refine TW.assign rfl rfl rfl ct ?_
    refine TW.nil (KW.pick [0, 1, 2, 3, 30, 31] [(0, _, _), (1, _, _), (2, _, _), (3, _, _), (30, _, _), (31, _, _)] rfl (KW.then_ ?_))
    refine CW.condP rfl (fun hk1 => ?_) (fun hk1 => ?_)
    · refine CW.seq (CW.region ?_)
      refine TW.fieldAddr rfl rfl fo35_5 rfl ct ?_
      refine TW.load rfl rfl one33 rfl ct (fun _ => f5.fld rfl) ?_
      refine TW.lenSlice rfl rfl Tryd.underlying33 rfl ct ?_
      refine TW.eql rfl rfl rfl ct rfl ct ?_
      refine TW.assign rfl rfl rfl ct ?_
      refine TW.nil (KW.pick [0, 1, 2, 3, 30] [(0, _, _), (1, _, _), (2, _, _), (3, _, _), (30, _, _)] rfl (KW.then_ ?_))
      refine CW.ret (KW.blockR (KW.thenR ?_))
      refine ret1 Tryd.results22 rfl (⟨hbel, ?_⟩)
      by_cases h0 : r.cont = []
      · rw [dec_pos ⟨s1, s2, n1, n2, t1, t2, hlab, .inl ⟨hk1, h0⟩⟩]
        simp [h0]
      · rw [dec_neg fun hc => ?_]
        · simp [h0]
        · rcases hc.kinds with ⟨_, h⟩ | ⟨h, _⟩
          · exact h0 h
          · omega
    · refine CW.seq (CW.region ?_)
      refine TW.eql rfl rfl rfl ct rfl ct ?_
      refine TW.assign rfl rfl rfl ct ?_
      refine TW.nil (KW.pick [0, 1, 2, 3, 30, 37] [(0, _, _), (1, _, _), (2, _, _), (3, _, _), (30, _, _), (37, _, _)] rfl (KW.then_ ?_))
      refine CW.condP rfl (fun hk2 => ?_) (fun hk2 => ?_)
      · refine CW.seq (CW.region ?_)
        refine TW.fieldAddr rfl rfl fo35_5 rfl ct ?_
        refine TW.load rfl rfl one33 rfl ct (fun _ => f5.fld rfl) ?_
        refine TW.lenSlice rfl rfl Tryd.underlying33 rfl ct ?_
        refine TW.leq rfl rfl rfl ct rfl ct ?_
        refine TW.move rfl rfl rfl ct ?_
        refine TW.fieldAddr rfl rfl fo35_4 rfl ct ?_
        refine TW.load rfl rfl one9 rfl id (fun _ => f5.fld rfl) ?_
        refine TW.fieldAddr rfl rfl fo35_5 rfl ct ?_
        refine TW.load rfl rfl one33 rfl id (fun _ => f5.fld rfl) ?_
        refine TW.callF (cap := []) rfl rfl en36 rfl ct (Args.cons rfl id (Args.cons rfl id Args.nil)) (fun _ => different_c hc5) ?_
        rintro w6 b6
        refine TW.pickAnd rfl rfl rfl ct rfl pAnd0 ?_
        refine TW.assign rfl rfl rfl ct ?_
        refine TW.nil (KW.pick [0, 1, 2, 3, 30] [(0, _, _), (1, _, _), (2, _, _), (3, _, _), (30, _, _)] rfl (KW.then_ ?_))
        refine CW.ret (KW.blockR (KW.thenR ?_))
        refine ret1 Tryd.results22 rfl (⟨hbel.step b6, ?_⟩)
        by_cases hk : Kinds r
        · rw [dec_pos (p := Comp r) ⟨s1, s2, n1, n2, t1, t2, hlab, hk⟩]
          rcases hk with ⟨h, _⟩ | ⟨_, h1, h2, h3⟩
          · omega
          · rw [dec_pos ⟨h2, h3⟩]
            simp
            omega
        · rw [dec_neg (p := Comp r) fun hc => hk hc.kinds]
          by_cases hd : (∀ c ∈ r.cont, isLab c ∧ c ≠ r.label) ∧ r.cont.Nodup
          · have : ¬ r.cont.length ≤ 40 := fun h => hk (.inr ⟨hk2, h, hd.1, hd.2⟩)
            simp
            omega
          · rw [dec_neg hd]
            simp
      · refine CW.skip (KW.blockN (KW.then_ (CW.seq (CW.region ?_))))
        refine TW.assign rfl rfl rfl ct ?_
        refine TW.nil (KW.pick [0, 1, 2, 3, 30] [(0, _, _), (1, _, _), (2, _, _), (3, _, _), (30, _, _)] rfl (KW.then_ ?_))
        refine CW.ret ?_
        refine ret1 Tryd.results22 rfl (⟨hbel, ?_⟩)
        rw [dec_neg fun hc => ?_]
        rcases hc.kinds with ⟨h, _⟩ | ⟨h, _⟩
        · exact hk1 h
        · exact hk2 h

set_option maxRecDepth 20000 in
theorem valid_c {w : World} {u v : Value} {l : List Sc} {r : Rc} {F G : Nat → Prop} (hl : SL scT G w u l) (h : RcOK F w v r) :
    Gives Tryd.prog 11 #[u, .agg (rcV r v).toArray] w fun x w' => Below w.heap.size w w' ∧ x = .bool (dec (Val l r)) := by
  have hct := h.ct
  obtain ⟨A, cap, rfl, _⟩ := hct.form
  obtain ⟨B, bcap, rfl, _⟩ := hl.form
  have hmax := hl.len.2.2
  refine gives_of (vs := [.slice B l.length bcap, .agg (rcV r (.slice A r.cont.length cap)).toArray]) [(0, none, _), (1, none, _)] Tryd.func11 rfl Tryd.ntmps11 rfl rfl ?_
  refine CW.seq (CW.region ?_)
  refine TW.box rfl rfl rfl rfl ?_
  rintro g1 w1 f1
  refine TW.assign rfl rfl rfl ct ?_
  refine TW.nil (KW.pick [0, 1, 3, 4] [(0, _, _), (1, _, _), (3, _, _), (4, _, _)] rfl (KW.then_ ?_))
  refine CW.seq (CW.seq (CW.region ?_))
  refine TW.move rfl rfl rfl ct ?_
  refine TW.lenSlice rfl rfl Tryd.underlying22 rfl ct ?_
  refine TW.gtr rfl rfl rfl ct rfl ct ?_
  refine TW.move rfl rfl rfl ct ?_
  refine TW.fieldAddr rfl rfl fo35_0 rfl ct ?_
  refine TW.load rfl rfl one3 rfl id (fun _ => f1.blk.fld rfl) ?_
  refine TW.lss rfl rfl rfl id rfl ct ?_
  refine TW.pickOr rfl rfl rfl ct rfl pOr0 ?_
  refine TW.move rfl rfl rfl ct ?_
  refine TW.fieldAddr rfl rfl fo35_0 rfl ct ?_
  refine TW.load rfl rfl one3 rfl id (fun _ => f1.blk.fld rfl) ?_
  refine TW.move rfl rfl rfl ct ?_
  refine TW.lenSlice rfl rfl Tryd.underlying22 rfl id ?_
  refine TW.geq rfl rfl rfl id rfl id ?_
  refine TW.pickOr rfl rfl rfl ct rfl pOr0 ?_
  refine TW.nil (KW.pick [0, 1, 3, 4, 20] [(0, _, _), (1, _, _), (3, _, _), (4, _, _), (20, _, _)] rfl (KW.then_ ?_))
  refine CW.cond rfl (fun hbad => ?_) (fun hgood => ?_)
  · refine CW.seq (CW.region ?_)
    refine TW.assign rfl rfl rfl ct ?_
    refine TW.nil (KW.pick [0, 1, 3, 4] [(0, _, _), (1, _, _), (3, _, _), (4, _, _)] rfl (KW.then_ ?_))
    refine CW.ret (KW.thenR ?_)
    refine ret1 Tryd.results11 rfl (⟨f1.below, ?_⟩)
    rw [dec_neg fun hc => ?_]
    have h1 := hc.few
    have h2 := hc.comp.s1
    obtain ⟨s, hs, _⟩ := hc.scan
    have h3 := (List.getElem?_eq_some_iff.1 hs).1
    simp at hbad
    omega
  · have hq : l.length ≤ 24 ∧ 0 ≤ r.scn ∧ r.scn < l.length := by
      simp at hgood
      omega
    obtain ⟨hfew, hs0, hs1⟩ := hq
    obtain ⟨s, hs, hsm⟩ := getx (l := l) (k := r.scn.toNat) (by omega)
    have hl1 := hl.below f1.below
    obtain ⟨ad, rfl⟩ := hl1.addr (by omega)
    obtain ⟨hcells, i1, i2, i3⟩ := SS.get hl1 hs
    have hr : ((r.scn.toNat : Nat) : Int) = r.scn := by omega
    rw [hr] at hcells
    refine CW.skip (KW.then_ (CW.seq (CW.region ?_)))
    refine TW.move rfl rfl rfl ct ?_
    refine TW.fieldAddr rfl rfl fo35_0 rfl ct ?_
    refine TW.load rfl rfl one3 rfl ct (fun _ => f1.blk.fld rfl) ?_
    refine TW.indexAddr rfl rfl Tryd.underlying22 sz50 rfl ct rfl ct (fun _ => by (try dsimp only); omega) ?_
    refine TW.loadS _ rfl rfl Tryd.underlying50 sz50 rfl ct (fun _ => hcells) rfl ?_
    refine TW.newVar rfl zc50 rfl sz50 rfl rfl ?_
    rintro g2 w2 f2
    refine TW.nil (KW.pick [0, 1, 3, 4, 5] [(0, _, _), (1, _, _), (3, _, _), (4, _, _), (5, _, _)] rfl (KW.then_ ?_))
    refine CW.seq (CW.region ?_)
    refine TW.fieldAddr rfl rfl fo50_0 rfl ct ?_
    have hB1 := f1.blk.next f2.below
    refine TW.load rfl rfl one3 rfl ct (fun _ => f2.blk.fld rfl) ?_
    refine TW.geq rfl rfl rfl ct rfl ct ?_
    refine TW.move rfl rfl rfl ct ?_
    refine TW.fieldAddr rfl rfl fo50_1 rfl ct ?_
    refine TW.load rfl rfl one3 rfl id (fun _ => f2.blk.fld rfl) ?_
    refine TW.geq rfl rfl rfl id rfl ct ?_
    refine TW.pickAnd rfl rfl rfl ct rfl pAnd0 ?_
    refine TW.move rfl rfl rfl ct ?_
    refine TW.fieldAddr rfl rfl fo50_2 rfl ct ?_
    refine TW.load rfl rfl one3 rfl id (fun _ => f2.blk.fld rfl) ?_
    refine TW.geq rfl rfl rfl id rfl ct ?_
    refine TW.pickAnd rfl rfl rfl ct rfl pAnd0 ?_
    refine TW.move rfl rfl rfl ct ?_
    refine TW.fieldAddr rfl rfl fo50_2 rfl ct ?_
    refine TW.load rfl rfl one3 rfl id (fun _ => f2.blk.fld rfl) ?_
    refine TW.leq rfl rfl rfl id rfl ct ?_
    refine TW.pickAnd rfl rfl rfl ct rfl pAnd0 ?_
    refine TW.move rfl rfl rfl ct ?_
    refine TW.loadS _ rfl rfl Tryd.underlying35 sz35 rfl ct (fun _ => (fun _ _ hv => hB1.fld hv)) rfl ?_
    refine TW.callF (cap := []) rfl rfl en22 rfl ct (Args.cons rfl id Args.nil) (fun _ => complete_c (h.below (f1.below.step f2.below))) ?_
    rintro w3 b3
    refine TW.pickAnd rfl rfl rfl ct rfl pAnd0 ?_
    refine TW.assign rfl rfl rfl ct ?_
    refine TW.nil (KW.pick [0, 1, 3, 4, 5] [(0, _, _), (1, _, _), (3, _, _), (4, _, _), (5, _, _)] rfl (KW.then_ ?_))
    refine CW.ret ?_
    refine ret1 Tryd.results11 rfl (⟨(f1.below.step f2.below).step b3, ?_⟩)
    by_cases hc : Comp r
    · rw [dec_pos hc]
      by_cases hk : ScOK s
      · rw [dec_pos (p := Val l r) ⟨hfew, hc, s, hs, hk⟩]
        obtain ⟨q1, q2, q3, q4⟩ := hk
        simp [q1, q2, q3, q4]
      · rw [dec_neg (p := Val l r) fun hv => hk ?_]
        · rw [Value.bool.injEq, Bool.eq_false_iff]
          intro h
          simp at h
          exact hk ⟨by omega, by omega, by omega, by omega⟩
        · obtain ⟨s', hs', hk'⟩ := hv.scan
          rw [hs] at hs'
          cases hs'
          exact hk'
    · rw [dec_neg hc, dec_neg (p := Val l r) fun hv => hc hv.comp]
      simp
end Go.Proofs.YthjcgmjcpmodlaaDoor
