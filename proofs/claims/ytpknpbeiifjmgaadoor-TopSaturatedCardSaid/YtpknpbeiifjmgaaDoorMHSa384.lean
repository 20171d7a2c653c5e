/-
  Part 4 of the proof: Shelf, Libf, Map, Fs. No statement of the seat is proved here.
-/
import Derived.Test.YtpknpbeiifjmgaaDoorMHSa383
import Derived.Shelf.Small.Utf8
import Derived.Shelf.Small.Bits
import Derived.Shelf.Small.Strs
import Derived.Shelf.Small.Wraps
import Derived.Shelf.Strconv.Itoa0
import Derived.Shelf.Strconv.Itoa1
import Derived.Shelf.LaysM
import Derived.Shelf.Strconv.Itoa2
import Derived.Shelf.Strconv.Itoa3
import Derived.Shelf.Strings.Search1
import Derived.Shelf.Sort.Plain
import Derived.Shelf.Strings.Prefix
import Derived.Shelf.Strings.Runes
import Derived.Shelf.Strings.IndexAny
import Derived.Shelf.Strings.AsciiSet
import Derived.Shelf.Strings.IndexAnyAll
import Derived.Shelf.Slices.Turned
import Derived.Ground.Names2Prog
import Derived.Shelf.Slices.Clone
import Derived.Shelf.Slices.CompactI
import Derived.Shelf.Slices.SearchI
import Derived.Shelf.Slices.Cells
import Derived.Test.YtpknpbeiifjmgaaDoorProg
import Derived.Maps.Own
import Derived.Maps.OwnOps
import Derived.Maps.OwnSet
import Derived.Lib.SliceRun
import Derived.ArgAppend
namespace Go.Proofs
open Go.Shelf
def Tryd.lays137_ren : Go.Shelf.Ren := ⟨fun | 137 => 69 | 217 => 87 | 266 => 96 | n => n, fun | 9 => 9 | 5 => 5 | 3 => 3 | n => n, fun | n => n⟩
theorem Tryd.lays137 : Go.Proofs.Lays.n137 Tryd.prog Tryd.lays137_ren := {
  mixed := by kernel_rfl
  f137 := Tryd.func69.trans (congrArg some (by kernel_rfl))
  f217 := Tryd.func87.trans (congrArg some (by kernel_rfl))
  f266 := Tryd.func96.trans (congrArg some (by kernel_rfl))
  t3 := Tryd.underlying3
  a3 := Tryd.isAgg3
  z3 := Tryd.sizeOf3
  v3 := Tryd.zeroValue3
  t5 := Tryd.underlying5
  a5 := Tryd.isAgg5
  z5 := Tryd.sizeOf5
  v5 := Tryd.zeroValue5
  t9 := Tryd.underlying9
  a9 := Tryd.isAgg9
  z9 := Tryd.sizeOf9
  v9 := Tryd.zeroValue9 }
open Go.RowKit in
theorem Tryd.strings_IndexByte (s : ByteArray) (c : Int) (w : World) :
    Calls Tryd.prog 69 #[.string s, .int .u8 c] w fun e w' => e = .returned (.int .i64 (Lib.indexByte s.data.toList c.toNat.toUInt8)) ∧ w' = w := Any.strings_IndexByte Tryd.lays137 s c w
def Tryd.lays104_ren : Go.Shelf.Ren := ⟨fun | 104 => 67 | 211 => 85 | 207 => 94 | n => n, fun | 9 => 9 | 4 => 4 | 24 => 99 | 3 => 3 | n => n, fun | n => n⟩
theorem Tryd.lays104 : Go.Proofs.Lays.n104 Tryd.prog Tryd.lays104_ren := {
  mixed := by kernel_rfl
  f104 := Tryd.func67.trans (congrArg some (by kernel_rfl))
  f207 := Tryd.func94.trans (congrArg some (by kernel_rfl))
  f211 := Tryd.func85.trans (congrArg some (by kernel_rfl))
  t3 := Tryd.underlying3
  a3 := Tryd.isAgg3
  z3 := Tryd.sizeOf3
  v3 := Tryd.zeroValue3
  t4 := Tryd.underlying4
  a4 := Tryd.isAgg4
  z4 := Tryd.sizeOf4
  v4 := Tryd.zeroValue4
  t9 := Tryd.underlying9
  a9 := Tryd.isAgg9
  z9 := Tryd.sizeOf9
  v9 := Tryd.zeroValue9
  t24 := Tryd.underlying99
  a24 := Tryd.isAgg99
  z24 := Tryd.sizeOf99
  v24 := Tryd.zeroValue99 }
open Go.RowKit in
theorem Tryd.strings_CutSuffix (s p : ByteArray) (w : World) (hs : s.size ≤ 9223372036854775807) :
    Calls Tryd.prog 67 #[.string s, .string p] w fun e w' => e = .returned (.tuple #[.string ⟨(Lib.trimSuffix s.data.toList p.data.toList).toArray⟩, .bool (Lib.hasSuffix s.data.toList p.data.toList)]) ∧ w' = w := Any.strings_CutSuffix Tryd.lays104 s p w hs
def Tryd.lays171_ren : Go.Shelf.Ren := ⟨fun | 171 => 25 | 243 => 41 | 246 => 73 | 283 => 88 | 284 => 89 | 285 => 90 | 286 => 91 | 129 => 56 | 317 => 97 | 318 => 98 | 319 => 99 | 320 => 100 | 337 => 101 | 338 => 102 | n => n, fun | 3 => 3 | 9 => 9 | 2 => 2 | 4 => 4 | 171 => 115 | 0 => 0 | 53 => 95 | 37 => 117 | 5 => 5 | 173 => 118 | 212 => 126 | 51 => 93 | 20 => 20 | 213 => 127 | 46 => 64 | 232 => 128 | 233 => 129 | n => n, fun | 17 => 1 | 18 => 2 | 19 => 3 | n => n⟩
theorem Tryd.lays171 : Go.Proofs.Lays.n171 Tryd.prog Tryd.lays171_ren := {
  mixed := by kernel_rfl
  f129 := Tryd.func56.trans (congrArg some (by kernel_rfl))
  f171 := Tryd.func25.trans (congrArg some (by kernel_rfl))
  f243 := Tryd.func41.trans (congrArg some (by kernel_rfl))
  f246 := Tryd.func73.trans (congrArg some (by kernel_rfl))
  f283 := Tryd.func88.trans (congrArg some (by kernel_rfl))
  f284 := Tryd.func89.trans (congrArg some (by kernel_rfl))
  f285 := Tryd.func90.trans (congrArg some (by kernel_rfl))
  f286 := Tryd.func91.trans (congrArg some (by kernel_rfl))
  f317 := Tryd.func97.trans (congrArg some (by kernel_rfl))
  f318 := Tryd.func98.trans (congrArg some (by kernel_rfl))
  f319 := Tryd.func99.trans (congrArg some (by kernel_rfl))
  f320 := Tryd.func100.trans (congrArg some (by kernel_rfl))
  f337 := Tryd.func101.trans (congrArg some (by kernel_rfl))
  f338 := Tryd.func102.trans (congrArg some (by kernel_rfl))
  t0 := Tryd.underlying0
  a0 := Tryd.isAgg0
  z0 := Tryd.sizeOf0
  v0 := Tryd.zeroValue0
  t2 := Tryd.underlying2
  a2 := Tryd.isAgg2
  z2 := Tryd.sizeOf2
  v2 := Tryd.zeroValue2
  t3 := Tryd.underlying3
  a3 := Tryd.isAgg3
  z3 := Tryd.sizeOf3
  v3 := Tryd.zeroValue3
  t4 := Tryd.underlying4
  a4 := Tryd.isAgg4
  z4 := Tryd.sizeOf4
  v4 := Tryd.zeroValue4
  t5 := Tryd.underlying5
  a5 := Tryd.isAgg5
  z5 := Tryd.sizeOf5
  v5 := Tryd.zeroValue5
  t9 := Tryd.underlying9
  a9 := Tryd.isAgg9
  z9 := Tryd.sizeOf9
  v9 := Tryd.zeroValue9
  t20 := Tryd.underlying20
  a20 := Tryd.isAgg20
  z20 := Tryd.sizeOf20
  v20 := Tryd.zeroValue20
  t37 := Tryd.underlying117
  a37 := Tryd.isAgg117
  z37 := Tryd.sizeOf117
  v37 := Tryd.zeroValue117
  t46 := Tryd.underlying64
  a46 := Tryd.isAgg64
  z46 := Tryd.sizeOf64
  v46 := Tryd.zeroValue64
  t51 := Tryd.underlying93
  a51 := Tryd.isAgg93
  z51 := Tryd.sizeOf93
  v51 := Tryd.zeroValue93
  t53 := Tryd.underlying95
  a53 := Tryd.isAgg95
  z53 := Tryd.sizeOf95
  v53 := Tryd.zeroValue95
  t171 := Tryd.underlying115
  a171 := Tryd.isAgg115
  z171 := Tryd.sizeOf115
  v171 := Tryd.zeroValue115
  t173 := Tryd.underlying118
  a173 := Tryd.isAgg118
  z173 := Tryd.sizeOf118
  v173 := Tryd.zeroValue118
  t212 := Tryd.underlying126
  a212 := Tryd.isAgg126
  z212 := Tryd.sizeOf126
  v212 := Tryd.zeroValue126
  t213 := Tryd.underlying127
  a213 := Tryd.isAgg127
  z213 := Tryd.sizeOf127
  t232 := Tryd.underlying128
  a232 := Tryd.isAgg128
  z232 := Tryd.sizeOf128
  v232 := Tryd.zeroValue128
  t233 := Tryd.underlying129
  a233 := Tryd.isAgg129
  z233 := Tryd.sizeOf129
  v233 := Tryd.zeroValue129
  g17 := by kernel_rfl
  g18 := by kernel_rfl
  g19 := by kernel_rfl }
open Go.RowKit Go.Sort Go.Lib in
theorem Tryd.strconv_Itoa_small (i : Nat) (hi : i < 100) (w : World) :
    Calls Tryd.prog 25 #[.int .i64 i] w fun e w' => e = .returned (.string ⟨(Lib.decDigits i).toArray⟩) ∧ w' = w := Any.strconv_Itoa_small Tryd.lays171 i hi w
def Tryd.lays189_ren : Go.Shelf.Ren := ⟨fun | 189 => 18 | 125 => 29 | 257 => 28 | 128 => 55 | 129 => 56 | 294 => 46 | 295 => 47 | 296 => 48 | 297 => 49 | 298 => 50 | 299 => 51 | 216 => 52 | 300 => 53 | 301 => 54 | 328 => 75 | 329 => 76 | 330 => 77 | 331 => 78 | 332 => 79 | 215 => 80 | 343 => 92 | n => n, fun | 28 => 27 | 3 => 3 | 46 => 64 | 0 => 0 | 51 => 93 | 53 => 95 | 4 => 4 | 183 => 85 | 182 => 84 | 131 => 90 | 5 => 5 | 9 => 9 | 218 => 107 | 222 => 111 | 228 => 120 | 229 => 121 | n => n, fun | n => n⟩
theorem Tryd.lays189 : Go.Proofs.Lays.n189 Tryd.prog Tryd.lays189_ren := {
  mixed := by kernel_rfl
  f125 := Tryd.func29.trans (congrArg some (by kernel_rfl))
  f128 := Tryd.func55.trans (congrArg some (by kernel_rfl))
  f129 := Tryd.func56.trans (congrArg some (by kernel_rfl))
  f189 := Tryd.func18.trans (congrArg some (by kernel_rfl))
  f215 := Tryd.func80.trans (congrArg some (by kernel_rfl))
  f216 := Tryd.func52.trans (congrArg some (by kernel_rfl))
  f257 := Tryd.func28.trans (congrArg some (by kernel_rfl))
  f294 := Tryd.func46.trans (congrArg some (by kernel_rfl))
  f295 := Tryd.func47.trans (congrArg some (by kernel_rfl))
  f296 := Tryd.func48.trans (congrArg some (by kernel_rfl))
  f297 := Tryd.func49.trans (congrArg some (by kernel_rfl))
  f298 := Tryd.func50.trans (congrArg some (by kernel_rfl))
  f299 := Tryd.func51.trans (congrArg some (by kernel_rfl))
  f300 := Tryd.func53.trans (congrArg some (by kernel_rfl))
  f301 := Tryd.func54.trans (congrArg some (by kernel_rfl))
  f328 := Tryd.func75.trans (congrArg some (by kernel_rfl))
  f329 := Tryd.func76.trans (congrArg some (by kernel_rfl))
  f330 := Tryd.func77.trans (congrArg some (by kernel_rfl))
  f331 := Tryd.func78.trans (congrArg some (by kernel_rfl))
  f332 := Tryd.func79.trans (congrArg some (by kernel_rfl))
  f343 := Tryd.func92.trans (congrArg some (by kernel_rfl))
  t0 := Tryd.underlying0
  a0 := Tryd.isAgg0
  z0 := Tryd.sizeOf0
  v0 := Tryd.zeroValue0
  t3 := Tryd.underlying3
  a3 := Tryd.isAgg3
  z3 := Tryd.sizeOf3
  v3 := Tryd.zeroValue3
  t4 := Tryd.underlying4
  a4 := Tryd.isAgg4
  z4 := Tryd.sizeOf4
  v4 := Tryd.zeroValue4
  t5 := Tryd.underlying5
  a5 := Tryd.isAgg5
  z5 := Tryd.sizeOf5
  v5 := Tryd.zeroValue5
  t9 := Tryd.underlying9
  a9 := Tryd.isAgg9
  z9 := Tryd.sizeOf9
  v9 := Tryd.zeroValue9
  t28 := Tryd.underlying27
  a28 := Tryd.isAgg27
  z28 := Tryd.sizeOf27
  v28 := Tryd.zeroValue27
  t46 := Tryd.underlying64
  a46 := Tryd.isAgg64
  z46 := Tryd.sizeOf64
  v46 := Tryd.zeroValue64
  t51 := Tryd.underlying93
  a51 := Tryd.isAgg93
  z51 := Tryd.sizeOf93
  v51 := Tryd.zeroValue93
  t53 := Tryd.underlying95
  a53 := Tryd.isAgg95
  z53 := Tryd.sizeOf95
  v53 := Tryd.zeroValue95
  t131 := Tryd.underlying90
  a131 := Tryd.isAgg90
  z131 := Tryd.sizeOf90
  v131 := Tryd.zeroValue90
  t182 := Tryd.underlying84
  a182 := Tryd.isAgg84
  z182 := Tryd.sizeOf84
  v182 := Tryd.zeroValue84
  t183 := Tryd.underlying85
  a183 := Tryd.isAgg85
  z183 := Tryd.sizeOf85
  v183 := Tryd.zeroValue85
  t218 := Tryd.underlying107
  a218 := Tryd.isAgg107
  z218 := Tryd.sizeOf107
  v218 := Tryd.zeroValue107
  t222 := Tryd.underlying111
  a222 := Tryd.isAgg111
  z222 := Tryd.sizeOf111
  v222 := Tryd.zeroValue111
  t228 := Tryd.underlying120
  a228 := Tryd.isAgg120
  z228 := Tryd.sizeOf120
  v228 := Tryd.zeroValue120
  t229 := Tryd.underlying121
  a229 := Tryd.isAgg121
  z229 := Tryd.sizeOf121
  v229 := Tryd.zeroValue121 }
open Go.Sort Go.RowKit in
theorem Tryd.slices_Sort_int (blk off cap : Nat) (zs : List Int) (w : World) (hH : Holds (Value.int .i64) w blk off zs.toArray) (hblk : blk < w.heap.size) (hsz : zs.length < 4611686018427387904) :
    Calls Tryd.prog 18 #[.slice (some ⟨blk, off, none⟩) zs.length cap] w fun e w' =>
      e = .returned (.tuple #[]) ∧ ∃ n os, w' = grow (putRow (Value.int .i64) (Sort.ahead w n) blk off (zs.mergeSort fun x y => decide (x ≤ y)).toArray) os := Any.slices_Sort_int Tryd.lays189 blk off cap zs w hH hblk hsz
def Tryd.lays153_ren : Go.Shelf.Ren := ⟨fun | 153 => 24 | 152 => 37 | 226 => 38 | 227 => 39 | 228 => 40 | 137 => 69 | 119 => 70 | 224 => 71 | 225 => 72 | 217 => 87 | 266 => 96 | n => n, fun | 9 => 9 | 3 => 3 | 4 => 4 | 5 => 5 | 21 => 21 | 117 => 79 | 116 => 78 | 0 => 0 | 46 => 64 | 124 => 104 | n => n, fun | n => n⟩
theorem Tryd.lays153 : Go.Proofs.Lays.n153 Tryd.prog Tryd.lays153_ren := {
  mixed := by kernel_rfl
  f119 := Tryd.func70.trans (congrArg some (by kernel_rfl))
  f137 := Tryd.func69.trans (congrArg some (by kernel_rfl))
  f152 := Tryd.func37.trans (congrArg some (by kernel_rfl))
  f153 := Tryd.func24.trans (congrArg some (by kernel_rfl))
  f217 := Tryd.func87.trans (congrArg some (by kernel_rfl))
  f224 := Tryd.func71.trans (congrArg some (by kernel_rfl))
  f225 := Tryd.func72.trans (congrArg some (by kernel_rfl))
  f226 := Tryd.func38.trans (congrArg some (by kernel_rfl))
  f227 := Tryd.func39.trans (congrArg some (by kernel_rfl))
  f228 := Tryd.func40.trans (congrArg some (by kernel_rfl))
  f266 := Tryd.func96.trans (congrArg some (by kernel_rfl))
  t0 := Tryd.underlying0
  a0 := Tryd.isAgg0
  z0 := Tryd.sizeOf0
  v0 := Tryd.zeroValue0
  t3 := Tryd.underlying3
  a3 := Tryd.isAgg3
  z3 := Tryd.sizeOf3
  v3 := Tryd.zeroValue3
  t4 := Tryd.underlying4
  a4 := Tryd.isAgg4
  z4 := Tryd.sizeOf4
  v4 := Tryd.zeroValue4
  t5 := Tryd.underlying5
  a5 := Tryd.isAgg5
  z5 := Tryd.sizeOf5
  v5 := Tryd.zeroValue5
  t9 := Tryd.underlying9
  a9 := Tryd.isAgg9
  z9 := Tryd.sizeOf9
  v9 := Tryd.zeroValue9
  t21 := Tryd.underlying21
  a21 := Tryd.isAgg21
  z21 := Tryd.sizeOf21
  v21 := Tryd.zeroValue21
  t46 := Tryd.underlying64
  a46 := Tryd.isAgg64
  z46 := Tryd.sizeOf64
  v46 := Tryd.zeroValue64
  t116 := Tryd.underlying78
  a116 := Tryd.isAgg78
  z116 := Tryd.sizeOf78
  t117 := Tryd.underlying79
  a117 := Tryd.isAgg79
  z117 := Tryd.sizeOf79
  v117 := Tryd.zeroValue79
  t124 := Tryd.underlying104
  a124 := Tryd.isAgg104
  z124 := Tryd.sizeOf104
  v124 := Tryd.zeroValue104 }
open Go.RowKit Go.Lib in
theorem Tryd.strings_IndexAny_laid (s chars : ByteArray) (w : World) (hs : s.size < 4294967281) (hcs : chars.size < 4294967281) (has : ∀ (j : Nat) b, s.data.toList[j]? = some b → b.toNat < 128) (hac : ∀ (j : Nat) b, chars.data.toList[j]? = some b → b.toNat < 128) :
    Calls Tryd.prog 24 #[.string s, .string chars] w fun e w' => e = .returned (.int .i64 (Lib.indexAny s.data.toList chars.data.toList)) ∧ Below w.heap.size w w' := Any.strings_IndexAny_laid Tryd.lays153 (by kernel_rfl) s chars w hs hcs has hac
def Tryd.lays107_ren : Go.Shelf.Ren := ⟨fun | 107 => 6 | 108 => 12 | n => n, fun | 28 => 27 | 3 => 3 | 4 => 4 | 0 => 0 | n => n, fun | n => n⟩
theorem Tryd.lays107 : Go.Proofs.Lays.n107 Tryd.prog Tryd.lays107_ren := {
  mixed := by kernel_rfl
  f107 := Tryd.func6.trans (congrArg some (by kernel_rfl))
  f108 := Tryd.func12.trans (congrArg some (by kernel_rfl))
  t0 := Tryd.underlying0
  a0 := Tryd.isAgg0
  z0 := Tryd.sizeOf0
  v0 := Tryd.zeroValue0
  t3 := Tryd.underlying3
  a3 := Tryd.isAgg3
  z3 := Tryd.sizeOf3
  v3 := Tryd.zeroValue3
  t4 := Tryd.underlying4
  a4 := Tryd.isAgg4
  z4 := Tryd.sizeOf4
  v4 := Tryd.zeroValue4
  t28 := Tryd.underlying27
  a28 := Tryd.isAgg27
  z28 := Tryd.sizeOf27
  v28 := Tryd.zeroValue27 }
open Go.Lib in
theorem Tryd.slices_Contains_int (b off n c : Nat) (zs : List Int) (x : Int) (w : World) (hz : n ≤ zs.length) (hbig : n ≤ 9223372036854775807) (hc : ∀ j, j < zs.length → w.cell? ⟨b, off + j, none⟩ = some (.int .i64 (zs.getD j 0))) :
    Calls Tryd.prog 6 #[.slice (some ⟨b, off, none⟩) n c, .int .i64 x] w fun e w' => e = .returned (.bool ((zs.take n).contains x)) ∧ w' = w := Any.slices_Contains_int Tryd.lays107 b off n c zs x w hz hbig hc
open Go.Lib in
theorem Tryd.slices_Contains_int_empty (a : Option Addr) (c : Nat) (x : Int) (w : World) :
    Calls Tryd.prog 6 #[.slice a 0 c, .int .i64 x] w fun e w' => e = .returned (.bool false) ∧ w' = w := Any.slices_Contains_int_empty Tryd.lays107 a c x w
def Tryd.lays110_ren : Go.Shelf.Ren := ⟨fun | 110 => 26 | 109 => 42 | n => n, fun | 31 => 22 | 9 => 9 | 4 => 4 | 3 => 3 | 0 => 0 | n => n, fun | n => n⟩
theorem Tryd.lays110 : Go.Proofs.Lays.n110 Tryd.prog Tryd.lays110_ren := {
  mixed := by kernel_rfl
  f109 := Tryd.func42.trans (congrArg some (by kernel_rfl))
  f110 := Tryd.func26.trans (congrArg some (by kernel_rfl))
  t0 := Tryd.underlying0
  a0 := Tryd.isAgg0
  z0 := Tryd.sizeOf0
  v0 := Tryd.zeroValue0
  t3 := Tryd.underlying3
  a3 := Tryd.isAgg3
  z3 := Tryd.sizeOf3
  v3 := Tryd.zeroValue3
  t4 := Tryd.underlying4
  a4 := Tryd.isAgg4
  z4 := Tryd.sizeOf4
  v4 := Tryd.zeroValue4
  t9 := Tryd.underlying9
  a9 := Tryd.isAgg9
  z9 := Tryd.sizeOf9
  v9 := Tryd.zeroValue9
  t31 := Tryd.underlying22
  a31 := Tryd.isAgg22
  z31 := Tryd.sizeOf22
  v31 := Tryd.zeroValue22 }
open Go.Lib in
theorem Tryd.slices_Contains_string (b off n c : Nat) (zs : List ByteArray) (x : ByteArray) (w : World) (hz : n ≤ zs.length) (hbig : n ≤ 9223372036854775807) (hc : ∀ j, j < zs.length → w.cell? ⟨b, off + j, none⟩ = some (.string (zs.getD j ByteArray.empty))) :
    Calls Tryd.prog 26 #[.slice (some ⟨b, off, none⟩) n c, .string x] w fun e w' => e = .returned (.bool (Lib.containsS (zs.take n) x)) ∧ w' = w := Any.slices_Contains_string Tryd.lays110 b off n c zs x w hz hbig hc
open Go.Lib in
theorem Tryd.slices_Contains_string_empty (a : Option Addr) (c : Nat) (x : ByteArray) (w : World) :
    Calls Tryd.prog 26 #[.slice a 0 c, .string x] w fun e w' => e = .returned (.bool false) ∧ w' = w := Any.slices_Contains_string_empty Tryd.lays110 a c x w
def Tryd.laysNm215_ren : Go.Shelf.Ren := ⟨fun | 15 => 17 | n => n, fun | 22 => 27 | 3 => 3 | 4 => 4 | n => n, fun | n => n⟩
theorem Tryd.laysNm215 : Go.Proofs.Lays2.n15 Tryd.prog Tryd.laysNm215_ren := {
  mixed := by kernel_rfl
  f15 := Tryd.func17.trans (congrArg some (by kernel_rfl))
  t3 := Tryd.underlying3
  a3 := Tryd.isAgg3
  z3 := Tryd.sizeOf3
  v3 := Tryd.zeroValue3
  t4 := Tryd.underlying4
  a4 := Tryd.isAgg4
  z4 := Tryd.sizeOf4
  v4 := Tryd.zeroValue4
  t22 := Tryd.underlying27
  a22 := Tryd.isAgg27
  z22 := Tryd.sizeOf27
  v22 := Tryd.zeroValue27
  i3 := by kernel_rfl }
open Go.RowKit Go.Lib in
theorem Tryd.slices_Clone_int (b off n c : Nat) (zs : List Int) (w : World) (hz : n ≤ zs.length) (hbig : n * 8 ≤ 140737488355328) (hc : ∀ j, j < zs.length → w.cell? ⟨b, off + j, none⟩ = some (.int .i64 (zs.getD j 0))) :
    Calls Tryd.prog 17 #[.slice (some ⟨b, off, none⟩) n c] w fun e w' => ∃ v', e = .returned v' ∧ w'.ownsRow w.heap.size 3 1 v' n ((zs.take n).map (Value.int .i64)) ∧ v' ≠ .slice none 0 0 ∧ Below w.heap.size w w' := Any.slices_Clone_int Tryd.laysNm215 b off n c zs w hz hbig hc
open Go.RowKit Go.Lib in
theorem Tryd.slices_Clone_int_nil (n c : Nat) (w : World) :
    Calls Tryd.prog 17 #[.slice none n c] w fun e w' => e = .returned (.slice none 0 0) ∧ w' = w := Any.slices_Clone_int_nil Tryd.laysNm215 n c w
open Go.RowKit Go.Lib in
theorem Tryd.slices_Clone_int_zero (a : Addr) (c : Nat) (w : World) :
    Calls Tryd.prog 17 #[.slice (some a) 0 c] w fun e w' => ∃ v', e = .returned v' ∧ w'.ownsRow w.heap.size 3 1 v' 0 [] ∧ v' ≠ .slice none 0 0 ∧ Below w.heap.size w w' := Any.slices_Clone_int_zero Tryd.laysNm215 a c w
def Tryd.laysNm220_ren : Go.Shelf.Ren := ⟨fun | 20 => 83 | n => n, fun | 22 => 27 | 3 => 3 | 4 => 4 | 0 => 0 | n => n, fun | n => n⟩
theorem Tryd.laysNm220 : Go.Proofs.Lays2.n20 Tryd.prog Tryd.laysNm220_ren := {
  mixed := by kernel_rfl
  f20 := Tryd.func83.trans (congrArg some (by kernel_rfl))
  t0 := Tryd.underlying0
  a0 := Tryd.isAgg0
  z0 := Tryd.sizeOf0
  v0 := Tryd.zeroValue0
  t3 := Tryd.underlying3
  a3 := Tryd.isAgg3
  z3 := Tryd.sizeOf3
  v3 := Tryd.zeroValue3
  t4 := Tryd.underlying4
  a4 := Tryd.isAgg4
  z4 := Tryd.sizeOf4
  v4 := Tryd.zeroValue4
  t22 := Tryd.underlying27
  a22 := Tryd.isAgg27
  z22 := Tryd.sizeOf27
  v22 := Tryd.zeroValue27
  i3 := by kernel_rfl }
open Go.RowKit Go.Lib Go.Sort in
theorem Tryd.slices_Compact_int (blk off cap : Nat) (zs : List Int) (w : World) (hH : Holds (Value.int .i64) w blk off zs.toArray) (hsz : zs.length ≤ 9223372036854775807) (hcap : zs.length ≤ cap) :
    Calls Tryd.prog 83 #[.slice (some ⟨blk, off, none⟩) zs.length cap] w fun e w' => e = .returned (.slice (some ⟨blk, off, none⟩) (Lib.compact zs).length cap) ∧ ∃ q, w' = putRow (Value.int .i64) (Sort.ahead w q) blk off (Lib.compact zs ++ List.replicate (zs.length - (Lib.compact zs).length) 0).toArray := Any.slices_Compact_int Tryd.laysNm220 blk off cap zs w hH hsz hcap
end Go.Proofs
namespace Go.Proofs.YtpknpbeiifjmgaaDoor
open Go.RowKit
def Quiet (w w' : World) : Prop := ∃ n, w' = w.drewN n
theorem Quiet.refl (w : World) : Quiet w w := ⟨0, rfl⟩
theorem Quiet.of_eq {w w' : World} (h : w = w') : Quiet w w' := ⟨0, h.symm⟩
theorem Quiet.trans {a b c : World} (h : Quiet a b) (k : Quiet b c) : Quiet a c := by
  obtain ⟨n, rfl⟩ := h
  obtain ⟨m, rfl⟩ := k
  exact ⟨n + m, by simp only [World.drewN, Nat.add_assoc]⟩
theorem Quiet.drew {a b : World} (h : Quiet a b) : Quiet a b.drew := h.trans ⟨1, rfl⟩
theorem Quiet.cell {w w' : World} (h : Quiet w w') (a : Addr) : w'.cell? a = w.cell? a := by
  obtain ⟨n, rfl⟩ := h; rfl
theorem Quiet.size {w w' : World} (h : Quiet w w') : w'.heap.size = w.heap.size := by
  obtain ⟨n, rfl⟩ := h; rfl
theorem Quiet.below {w w' : World} (h : Quiet w w') : Below w.heap.size w w' := by
  obtain ⟨n, rfl⟩ := h
  exact below_drewN (Below.refl _ _) n
theorem Hp.quiet {B : Nat} {w0 w w' : World} {L : List Res} (h : Hp B w0 w L) (q : Quiet w w') : Hp B w0 w' L := by
  obtain ⟨n, rfl⟩ := q; exact h.drewN n
theorem Quiet.hp {w w' : World} (q : Quiet w w') : Hp w.heap.size w w' [] := (Hp.refl w).quiet q
def hasI (xs : List Int) (n : Int) : Bool := xs.contains n
theorem contains_int (v : Value) (xs : List Int) (x : Int) (w : World) (h : Ints w v xs) :
    Calls Tryd.prog 6 #[v, .int .i64 x] w fun e w' => e = .returned (.bool (hasI xs x)) ∧ w = w' := by
  obtain ⟨hl, ⟨a, cap, rfl, hc⟩, _⟩ := h
  rcases hc with h0 | ⟨b, off, rfl, hc⟩
  · have hx : xs = [] := List.eq_nil_of_length_eq_zero h0
    subst hx
    exact (Tryd.slices_Contains_int_empty a cap x w).mono fun e w' ⟨h1, h2⟩ => ⟨by rw [h1]; rfl, h2.symm⟩
  · refine (Tryd.slices_Contains_int b off xs.length cap xs x w (Nat.le_refl _) (by omega) (fun j hj => ?_)).mono fun e w' ⟨h1, h2⟩ => ⟨by rw [h1, List.take_length]; rfl, h2.symm⟩
    exact hc j (by omega)
theorem contains_str (v : Value) (xs : List ByteArray) (x : ByteArray) (w : World) (h : Strs w v xs) :
    Calls Tryd.prog 26 #[v, .string x] w fun e w' => e = .returned (.bool (Lib.containsS xs x)) ∧ w = w' := by
  obtain ⟨⟨hl, ⟨a, cap, rfl, hc⟩, _⟩, _⟩ := h
  rcases hc with h0 | ⟨b, off, rfl, hc⟩
  · have hx : xs = [] := List.eq_nil_of_length_eq_zero h0
    subst hx
    exact (Tryd.slices_Contains_string_empty a cap x w).mono fun e w' ⟨h1, h2⟩ => ⟨by rw [h1]; rfl, h2.symm⟩
  · refine (Tryd.slices_Contains_string b off xs.length cap xs x w (Nat.le_refl _) (by omega) (fun j hj => ?_)).mono fun e w' ⟨h1, h2⟩ => ⟨?_, h2.symm⟩
    · exact hc j (by omega)
    · rw [h1, List.take_length]
theorem clone_int (v : Value) (xs : List Int) (w : World) (h : Ints w v xs) (hb : xs.length ≤ 1000000) :
    Calls Tryd.prog 17 #[v] w fun e w' => ∃ v', e = .returned v' ∧ Hp w.heap.size w w' [irow v' xs] := by
  obtain ⟨hl, ⟨a, cap, rfl, hc⟩, _⟩ := h
  have own : ∀ {v' : Value} {w' : World}, w'.ownsRow w.heap.size 3 1 v' xs.length (ints xs) → Below w.heap.size w w' → Hp w.heap.size w w' [irow v' xs] := by
    intro v' w' h1 h2
    refine (Hp.refl w).fresh h1 h2 fun k hk => ?_
    exact (World.ownsRow.lt h1 k hk).1
  rcases hc with h0 | ⟨b, off, rfl, hc⟩
  · have hx : xs = [] := List.eq_nil_of_length_eq_zero h0
    subst hx
    cases a with
    | none => exact (Tryd.slices_Clone_int_nil 0 cap w).mono fun e w' ⟨h1, h2⟩ => ⟨_, h1, by rw [h2]; exact (Hp.refl w).nil _ _⟩
    | some a => exact (Tryd.slices_Clone_int_zero a cap w).mono fun e w' ⟨v', h1, h2, _, h4⟩ => ⟨v', h1, own h2 h4⟩
  · refine (Tryd.slices_Clone_int b off xs.length cap xs w (Nat.le_refl _) (by omega) (fun j hj => hc j (by omega))).mono fun e w' ⟨v', h1, h2, _, h4⟩ => ⟨v', h1, own ?_ h4⟩
    rw [List.take_length] at h2
    exact h2
def Enters (f : FuncId) : Prop := ∀ (args : Array Value) (w : World), (callFunc f args).run Tryd.prog w = .ok (.enter f args) w
theorem enters_of {f : FuncId} {fn : Func} {c : Code} (hf : Tryd.prog.funcs[f]? = some fn) (hn : (fn.name == "runtime.NumGoroutine") = false) (hb : fn.body = some c) : Enters f := by
  intro args w
  have hn' : ¬ fn.name = "runtime.NumGoroutine" := by simpa using hn
  simp [callFunc, hf, hn', hb, Sem.run_bind, program, Sem.run, Result.andThen]
structure PredI (f : FuncId) (caps : Array Value) (w : World) (xs : List Int) (p : Int → Bool) : Prop where
  enters : Enters f
  call : ∀ x ∈ xs, ∀ w1, Quiet w w1 → Calls Tryd.prog f (#[.int .i64 x] ++ caps) w1 fun e w' => e = .returned (.bool (p x)) ∧ Quiet w1 w'
def findI (p : Int → Bool) (xs : List Int) : Int := match xs.findIdx? p with | some i => (i : Int) | none => -1
theorem findI_hit (p : Int → Bool) (xs : List Int) (k : Nat) (hk : k < xs.length) (h0 : ∀ j, (hj : j < k) → p (xs[j]'(by omega)) = false) (h1 : p xs[k] = true) : findI p xs = k := by
  have : xs.findIdx? p = some k := by
    rw [List.findIdx?_eq_some_iff_getElem]
    exact ⟨hk, h1, fun j hj => by simp [h0 j hj]⟩
  rw [findI, this]
theorem findI_miss (p : Int → Bool) (xs : List Int) (h0 : ∀ j, (hj : j < xs.length) → p xs[j] = false) : findI p xs = -1 := by
  have : xs.findIdx? p = none := by
    rw [List.findIdx?_eq_none_iff]
    intro x hx
    obtain ⟨j, hj, rfl⟩ := List.getElem_of_mem hx
    exact h0 j hj
  rw [findI, this]
theorem findI_any (p : Int → Bool) (xs : List Int) : decide (0 ≤ findI p xs) = xs.any p := by
  unfold findI
  cases h : xs.findIdx? p with
  | none =>
    rw [List.findIdx?_eq_none_iff] at h
    have : xs.any p = false := by rw [List.any_eq_false]; exact fun x hx => by simp [h x hx]
    rw [this]; rfl
  | some i =>
    rw [List.findIdx?_eq_some_iff_getElem] at h
    obtain ⟨hi, h1, _⟩ := h
    have : xs.any p = true := List.any_eq_true.2 ⟨_, List.getElem_mem hi, h1⟩
    rw [this]; simp
set_option maxHeartbeats 1000000 in
theorem indexFunc_int (v : Value) (xs : List Int) (f : FuncId) (caps : Array Value) (p : Int → Bool) (w : World) (h : Ints w v xs) (hf : PredI f caps w xs p) :
    Calls Tryd.prog 74 #[v, .func (.func f) #[] caps] w fun e w' => e = .returned (.int .i64 (findI p xs)) ∧ Quiet w w' := by
  obtain ⟨a, cap, rfl, hl, hc⟩ := h.at
  have HC := Lib.hid hc; clear hc
  have hen := hf.enters
  unfold Enters at hen
  have HF := Lib.hid hf.call; clear hf
  go_enter Tryd.func74, Tryd.ntmps74
  go_wp2_with fail
  go_loopw [8] (fun i wr => ∃ k : Nat, k ≤ xs.length ∧ i = .int .i64 k ∧ Hid (∀ j, (hj : j < k) → (hj2 : j < xs.length) → p xs[j] = false) ∧ Quiet w wr) (fun i _ => xs.length - (intOf i).toNat)
  case atStart => exact ⟨0, by omega, rfl, fun j hj => absurd hj (by omega), Quiet.refl w⟩
  case round =>
    obtain ⟨k, hk, rfl, hno, hq⟩ := hrel
    by_cases hlt : k < xs.length
    · obtain ⟨b, off, rfl, hcell⟩ := HC.out k hlt
      have hcell : wr.cell? ⟨b, off + k, none⟩ = some (.int .i64 xs[k]) := (hq.cell _).trans hcell
      have hcall := HF.out xs[k] (List.getElem_mem hlt) wr hq
      have HCALL := Lib.hid hcall; clear hcall
      generalize hx : xs[k] = x at *
      have HX := Lib.hid hx; clear hx
      go_wp2_with fail
      refine HCALL.out.mono ?_
      rintro e w1 ⟨rfl, hq1⟩
      have HQ := Lib.hid (hq.trans hq1)
      cases hp : p x with
      | true =>
        go_wp2_with fail
        go_ret
        refine ⟨ret_int ?_, HQ.out⟩
        exact (findI_hit p xs k hlt (fun j hj => hno.out j hj (by omega)) (by rw [HX.out]; exact hp)).symm
      | false =>
        go_wp2_with fail
        go_roundw
        case rel =>
          refine ⟨k + 1, by omega, by go_num, ?_, HQ.out⟩
          intro j hj hj2
          rcases Nat.lt_or_ge j k with h1 | h1
          · exact hno.out j h1 hj2
          · obtain rfl : j = k := by omega
            rw [HX.out]; exact hp
        case measure => simp [intOf];omega
    · obtain rfl : k = xs.length := by omega
      go_wp2_with fail
      go_ret
      exact ⟨ret_int (findI_miss p xs (fun j hj => hno.out j hj hj)).symm, hq⟩
set_option maxHeartbeats 1000000 in
theorem containsFunc_int (v : Value) (xs : List Int) (f : FuncId) (caps : Array Value) (p : Int → Bool) (w : World) (h : Ints w v xs) (hf : PredI f caps w xs p) :
    Calls Tryd.prog 44 #[v, .func (.func f) #[] caps] w fun e w' => e = .returned (.bool (xs.any p)) ∧ Quiet w w' := by
  have HF := Lib.hid hf; clear hf
  have HH := Lib.hid h; clear h
  have HA := Lib.hid (findI_any p xs)
  go_enter Tryd.func44, Tryd.ntmps44
  go_wp2_with fail
  refine (indexFunc_int v xs f caps p w HH.out HF.out).mono ?_
  rintro e w1 ⟨rfl, hq⟩
  go_wp2_with fail
  go_ret
  exact ⟨ret_bool HA.out, hq⟩
end Go.Proofs.YtpknpbeiifjmgaaDoor
namespace Go.Proofs.YtpknpbeiifjmgaaDoor
open Go.RowKit Go.Maps
open Go.WideElems (Fit rd rg pl rd_val elemAt)
open Go.ChangeMaps (setBlock)
def rawR (v : Value) : Option (DataW Value × List MemPlace) := some (.held v, [])
def MapIs (P : Program) (k : TypeId) (n : Nat) (F : Lit → Option Value) (o : Obj) : Prop :=
  ∃ es clock, o = .map es clock ∧ Fit P k rawR es clock ∧ es.size ≤ n ∧
    ∀ kl z, WideAt.IsKeyLit kl → (DataW.map ((es.toList.map (rg P k rawR)).foldr DataW.insert []) : DataW Value).atKey kl z = match F kl with | some v => .held v | none => z
section
variable {B : Nat} {w0 w w' : World} {L : List Res} {P : Program} {k e t : TypeId} {g n : Nat} {F : Lit → Option Value}
theorem MapIs.own {o : Obj} (h : w.heap[g]? = some o) (hm : MapIs P k n F o) : ∃ D : DataW Value, w.ownsMap P k rawR g n D ∧ ∀ kl z, WideAt.IsKeyLit kl → D.atKey kl z = match F kl with | some v => .held v | none => z := by
  obtain ⟨es, clock, rfl, hf, hs, hd⟩ := hm
  exact ⟨_, ⟨es, clock, h, hf, hs, rfl⟩, hd⟩
def putF (F : Lit → Option Value) (kl : Lit) (v : Value) : Lit → Option Value := fun l => if l.sameKey kl = true then some v else F l
theorem Hp.store (h : Hp B w0 w L) (i : Nat) (hi : L[i]? = some (.obj g (MapIs P k n F))) (K : Keyed P k) (ht : P.underlying t = some (.map k e)) (hn : n < 9223372036854775807) {key val : Value} {kl : Lit} (hkey : keyOf P k key = some kl) (hl : WideAt.IsKeyLit kl) :
    ∃ w', (Instr.mapUpdate t (.map (some g)) key val).run P w = .ok () w' ∧ Hp B w0 w' (L.set i (.obj g (MapIs P k (n + 1) (putF F kl val)))) := by
  obtain ⟨hB, o, ho, hm⟩ := h.ok _ (List.mem_of_getElem? hi)
  obtain ⟨D, hown, hd⟩ := MapIs.own ho hm
  obtain ⟨w', hrun, hown', hg⟩ := hown.update K ht (by unfold maxLen;omega) (val := val) (d := .held val) (ps := []) hkey rfl
  refine ⟨w', hrun, h.turn hi hg (r' := .obj g (MapIs P k (n + 1) (putF F kl val))) ⟨hB, ?_⟩ (fun j hj => .inl hj)⟩
  have hisM := hown.isMap
  obtain ⟨es, clock, hb, hf, hs, hD⟩ := hown'
  refine ⟨_, hb, es, clock, rfl, hf, hs, fun kl' z hl' => ?_⟩
  rw [← hD]
  by_cases he : kl' = kl
  · subst he
    rw [atKey_put_same hisM hl, putF, if_pos (WideAt.sameKey_self hl)]
  · rw [atKey_put_other he, hd kl' z hl', putF, if_neg (by rw [sameKey_ne he]; simp)]
end
end Go.Proofs.YtpknpbeiifjmgaaDoor
namespace Go.Proofs.YtpknpbeiifjmgaaDoor
open Go.RowKit
section
variable {B : Nat} {w0 w : World} {L : List Res}
theorem Hp.cut (h : Hp B w0 w L) (i : Nat) {e : TypeId} {sz g n cap : Nat} {xs : List Value} (hi : L[i]? = some (.row e sz (.slice (some ⟨g, 0, .none⟩) n cap) n xs)) (k : Nat) (hk : k ≤ n) :
    Hp B w0 w (L.set i (.row e sz (.slice (some ⟨g, 0, .none⟩) k cap) k (xs.take (k * sz)))) := by
  have ho : w.ownsRow B e sz (.slice (some ⟨g, 0, .none⟩) n cap) n xs := h.ok _ (List.mem_of_getElem? hi)
  refine h.turn hi (r' := .row e sz (.slice (some ⟨g, 0, .none⟩) k cap) k (xs.take (k * sz))) ⟨rfl, rfl, rfl, Nat.le_refl _, fun _ _ _ => rfl⟩ ?_ (fun j hj => .inl hj)
  have hl := ho.1
  have hkz : k * sz ≤ n * sz := Nat.mul_le_mul_right _ hk
  refine ⟨by rw [List.length_take, hl, Nat.min_eq_left hkz], ?_⟩
  rcases ho.2 with ⟨h0, _⟩ | ⟨g', cap', cur, h0, h1, h2, h3, h4, h5, h6⟩
  · cases h0
  · cases h0
    exact .inr ⟨_, _, cur, rfl, h1, h2, by omega, h4, h5, by rw [← h6, List.take_take, Nat.min_eq_left hkz]⟩
end
theorem Ent.cut {w0 : World} {L : List Res} (i : Nat) {e : TypeId} {sz g n cap : Nat} {xs : List Value} (hi : L[i]? = some (.row e sz (.slice (some ⟨g, 0, .none⟩) n cap) n xs)) (k : Nat) (hk : k ≤ n) :
    Ent w0 L (L.set i (.row e sz (.slice (some ⟨g, 0, .none⟩) k cap) k (xs.take (k * sz)))) := Ent.mk fun w h => h.cut i hi k hk
section
variable {P : Program} {n : Nat} {w0 : World} {Q : Exit → Fm → List Res → Prop} {K : Fm → List Res → Prop} {F : Fm} {L : List Res} {m : Md} {Lw : List Res} {ops : Array Oper} {rest : List Oper}
  {d : Option Nat} {ty : TypeId} {pos : String} {aft : Array Edge}
theorem TSlice.elem {t e sz bytes : Nat} {z : Value} (T : TSlice P t e sz bytes z) : P.elem t = e := by simp [Program.elem, T.ty.und]
theorem TSlice.und' {t e sz bytes : Nat} {z : Value} (T : TSlice P t e sz bytes z) : P.underlying t = some (.slice (P.elem t)) := by rw [T.elem]; exact T.ty.und
theorem run_sl {t e sz bytes : Nat} {z : Value} (T : TSlice P t e sz bytes z) {ρ : Operand → Value} {x : Operand} {lo hi mx : Option Operand} {v u : Value} (hx : ρ x = v) (w : World) (dd : Option Nat) (p : String) (af : Array Edge) (g : Option (Nat × Bool))
    (h : (Instr.slice t v (lo.map ρ) (hi.map ρ) (mx.map ρ)).run P w = .ok u w) : (execOp ρ ⟨dd, .slice t x lo hi mx, ty, p, af, g⟩).run P w = .ok (.value u) w := by
  subst hx
  have := run_sliceAt_slice (P := P) (w := w) t (ρ x) (lo.map ρ) (hi.map ρ) (mx.map ρ) T.und'
  simp [execOp, this, h, Result.andThen]
theorem OKx_slH {t e sz bytes : Nat} {z : Value} [T : TSlice P t e sz bytes z] {x hi : Operand} {a : Addr} {len cap h : Nat} {k : IntKind} (hx : rv n F x = .slice (some a) len cap) (hh : rv n F hi = .int k (h : Int)) (h1 : h ≤ cap)
    (kk : OKx P n w0 m ops K rest (updo F d (.slice (some a) h cap)) L) : OKx P n w0 m ops K (⟨d, .slice t x none (some hi) none, ty, pos, aft, none⟩ :: rest) F L :=
  OKx_still (fun w _ _ _ _ _ => run_sl T hx w _ _ _ _ (by
    have := run_slice_h (P := P) (w := w) t (some a) len cap T.und' k (h : Int) (by omega) (by omega)
    rw [T.elem, T.size] at this
    simp only [Option.map_none, Option.map_some, hh, this, Result.andThen, sliced, Int.toNat_natCast, Nat.zero_mul, Nat.sub_zero, Addr.add, if_true]
    simp)) kk
theorem OKx_eqNilF {t ut e sz bytes : Nat} {z : Value} [T : TSlice P t e sz bytes z] {x y : Operand} {a : Addr} {k c : Nat} (hx : rv n F x = .slice (some a) k c) (hy : rv n F y = .slice none 0 0)
    (kk : OKx P n w0 m ops K rest (updo F d (.bool false)) L) : OKx P n w0 m ops K (⟨d, .binOp .eql t x y ut, ty, pos, aft, none⟩ :: rest) F L :=
  OKx_still (fun w _ _ _ _ _ => by
    have h := Lib.run_eql_slice_nil (P := P) w t e (some a) k c 0 0 T.ty.und
    have hg : (eqGuard .eql t x y (.slice (some a) k c) (.slice none 0 0)).run P w = .ok () w := by simp [eqGuard]
    simp [execOp, hx, hy, Sem.run_bind, hg, h, Result.andThen]) kk
end
end Go.Proofs.YtpknpbeiifjmgaaDoor
