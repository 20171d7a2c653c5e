/-
  Part 5 of the proof: Shelf, Libf, Map, Fs. No statement of the seat is proved here.
-/
import Derived.Test.YtpfemholpigdeaaDoorMHTr374
import Derived.Shelf.Strings.Builder1
import Derived.Shelf.Strings.Builder2
import Derived.Shelf.Strings.OnBuilder
import Derived.Shelf.Small.Bits
import Derived.Shelf.Small.Strs
import Derived.Shelf.Small.Wraps
import Derived.Shelf.Strings.BuilderF
import Derived.Shelf.Strings.BuilderK
import Derived.Shelf.Strconv.Itoa0
import Derived.Shelf.Strings.Search1
import Derived.Shelf.Strings.Search2
import Derived.Shelf.Strings.Search3
import Derived.Shelf.Strings.Cut
import Derived.Shelf.Strings.Count
import Derived.Shelf.LaysM
import Derived.Shelf.Strings.Shaped
import Derived.Shelf.Sort.Plain
import Derived.Shelf.Strings.Split
import Derived.Shelf.Strings.SplitShaped
import Derived.Shelf.Bits.Mul64
import Derived.Shelf.Unicode.DecodeSlow
import Derived.Shelf.Slices.Turned
import Derived.Shelf.Slices.Equal
import Derived.Ground.Names2Prog
import Derived.Shelf.Slices.Clone
import Derived.Shelf.Slices.CompactI
import Derived.Shelf.Slices.SearchI
import Derived.Shelf.Slices.Delete
import Derived.Shelf.Slices.Cells
import Derived.Shelf.Slices.Empties
import Derived.Shelf.Slices.Empties2
import Derived.Test.YtpfemholpigdeaaDoorProg
import Derived.Maps.Own
import Derived.Maps.OwnOps
import Derived.Maps.OwnSet
import Derived.Lib.SliceRun
import Derived.ArgAppend
namespace Go.Proofs
open Go.Shelf
def Tryd.lays125_ren : Go.Shelf.Ren := ⟨fun | 125 => 61 | 128 => 86 | 129 => 87 | n => n, fun | 46 => 97 | 3 => 3 | 51 => 121 | 53 => 123 | 4 => 4 | 5 => 5 | 9 => 9 | n => n, fun | n => n⟩
theorem Tryd.lays125 : Go.Proofs.Lays.n125 Tryd.prog Tryd.lays125_ren := {
  mixed := by kernel_rfl
  f125 := Tryd.func61.trans (congrArg some (by kernel_rfl))
  f128 := Tryd.func86.trans (congrArg some (by kernel_rfl))
  f129 := Tryd.func87.trans (congrArg some (by kernel_rfl))
  t3 := Tryd.underlying3
  a3 := Tryd.isAgg3
  z3 := Tryd.sizeOf3
  v3 := Tryd.zeroValue3
  t4 := Tryd.underlying4
  a4 := Tryd.isAgg4
  z4 := Tryd.sizeOf4
  v4 := Tryd.zeroValue4
  t5 := Tryd.underlying5
  a5 := Tryd.isAgg5
  z5 := Tryd.sizeOf5
  v5 := Tryd.zeroValue5
  t9 := Tryd.underlying9
  a9 := Tryd.isAgg9
  z9 := Tryd.sizeOf9
  v9 := Tryd.zeroValue9
  t46 := Tryd.underlying97
  a46 := Tryd.isAgg97
  z46 := Tryd.sizeOf97
  v46 := Tryd.zeroValue97
  t51 := Tryd.underlying121
  a51 := Tryd.isAgg121
  z51 := Tryd.sizeOf121
  v51 := Tryd.zeroValue121
  t53 := Tryd.underlying123
  a53 := Tryd.isAgg123
  z53 := Tryd.sizeOf123
  v53 := Tryd.zeroValue123 }
theorem Tryd.bits_Len (x : Int) (w : World) (h0 : 0 ≤ x) (h1 : x ≤ 18446744073709551615) :
    Calls Tryd.prog 61 #[.int .u64 x] w fun e w' => e = .returned (.int .i64 (Lib.bitLen x.toNat)) ∧ w' = w := Any.bits_Len Tryd.lays125 x w h0 h1
def Tryd.lays137_ren : Go.Shelf.Ren := ⟨fun | 137 => 125 | 217 => 99 | 266 => 117 | n => n, fun | 9 => 9 | 5 => 5 | 3 => 3 | n => n, fun | n => n⟩
theorem Tryd.lays137 : Go.Proofs.Lays.n137 Tryd.prog Tryd.lays137_ren := {
  mixed := by kernel_rfl
  f137 := Tryd.func125.trans (congrArg some (by kernel_rfl))
  f217 := Tryd.func99.trans (congrArg some (by kernel_rfl))
  f266 := Tryd.func117.trans (congrArg some (by kernel_rfl))
  t3 := Tryd.underlying3
  a3 := Tryd.isAgg3
  z3 := Tryd.sizeOf3
  v3 := Tryd.zeroValue3
  t5 := Tryd.underlying5
  a5 := Tryd.isAgg5
  z5 := Tryd.sizeOf5
  v5 := Tryd.zeroValue5
  t9 := Tryd.underlying9
  a9 := Tryd.isAgg9
  z9 := Tryd.sizeOf9
  v9 := Tryd.zeroValue9 }
open Go.RowKit in
theorem Tryd.strings_IndexByte (s : ByteArray) (c : Int) (w : World) :
    Calls Tryd.prog 125 #[.string s, .int .u8 c] w fun e w' => e = .returned (.int .i64 (Lib.indexByte s.data.toList c.toNat.toUInt8)) ∧ w' = w := Any.strings_IndexByte Tryd.lays137 s c w
def Tryd.lays145_ren : Go.Shelf.Ren := ⟨fun | 145 => 67 | 220 => 93 | 219 => 76 | 217 => 99 | 225 => 100 | 224 => 101 | 267 => 102 | 266 => 117 | 314 => 118 | n => n, fun | 9 => 9 | 4 => 4 | 59 => 105 | 3 => 3 | 5 => 5 | 46 => 97 | 146 => 144 | 51 => 121 | n => n, fun | 1 => 0 | n => n⟩
theorem Tryd.lays145 : Go.Proofs.Lays.n145 Tryd.prog Tryd.lays145_ren := {
  mixed := by kernel_rfl
  f145 := Tryd.func67.trans (congrArg some (by kernel_rfl))
  f217 := Tryd.func99.trans (congrArg some (by kernel_rfl))
  f219 := Tryd.func76.trans (congrArg some (by kernel_rfl))
  f220 := Tryd.func93.trans (congrArg some (by kernel_rfl))
  f224 := Tryd.func101.trans (congrArg some (by kernel_rfl))
  f225 := Tryd.func100.trans (congrArg some (by kernel_rfl))
  f266 := Tryd.func117.trans (congrArg some (by kernel_rfl))
  f267 := Tryd.func102.trans (congrArg some (by kernel_rfl))
  f314 := Tryd.func118.trans (congrArg some (by kernel_rfl))
  t3 := Tryd.underlying3
  a3 := Tryd.isAgg3
  z3 := Tryd.sizeOf3
  v3 := Tryd.zeroValue3
  t4 := Tryd.underlying4
  a4 := Tryd.isAgg4
  z4 := Tryd.sizeOf4
  v4 := Tryd.zeroValue4
  t5 := Tryd.underlying5
  a5 := Tryd.isAgg5
  z5 := Tryd.sizeOf5
  v5 := Tryd.zeroValue5
  t9 := Tryd.underlying9
  a9 := Tryd.isAgg9
  z9 := Tryd.sizeOf9
  v9 := Tryd.zeroValue9
  t46 := Tryd.underlying97
  a46 := Tryd.isAgg97
  z46 := Tryd.sizeOf97
  v46 := Tryd.zeroValue97
  t51 := Tryd.underlying121
  a51 := Tryd.isAgg121
  z51 := Tryd.sizeOf121
  v51 := Tryd.zeroValue121
  t59 := Tryd.underlying105
  a59 := Tryd.isAgg105
  z59 := Tryd.sizeOf105
  v59 := Tryd.zeroValue105
  t146 := Tryd.underlying144
  a146 := Tryd.isAgg144
  z146 := Tryd.sizeOf144
  v146 := Tryd.zeroValue144
  g1 := by kernel_rfl }
open Go.RowKit Go.Lib in
theorem Tryd.strings_Cut (s sep : ByteArray) (m : Int) (w : World) (hs : s.size < 4294967281) (hm : w.cell? ⟨0, 0, none⟩ = some (.int .i64 m)) :
    Calls Tryd.prog 67 #[.string s, .string sep] w fun e w' => e = .returned (.tuple #[.string ⟨(Lib.cut s.data.toList sep.data.toList).1.toArray⟩, .string ⟨(Lib.cut s.data.toList sep.data.toList).2.1.toArray⟩, .bool (Lib.cut s.data.toList sep.data.toList).2.2]) ∧ ∃ n, w' = w.drewN n := Any.strings_Cut Tryd.lays145 s sep m w hs hm
def Tryd.lays189_ren : Go.Shelf.Ren := ⟨fun | 189 => 28 | 125 => 61 | 257 => 60 | 128 => 86 | 129 => 87 | 294 => 77 | 295 => 78 | 296 => 79 | 297 => 80 | 298 => 81 | 299 => 82 | 216 => 83 | 300 => 84 | 301 => 85 | 328 => 103 | 329 => 104 | 330 => 105 | 331 => 106 | 332 => 107 | 215 => 108 | 343 => 119 | n => n, fun | 28 => 38 | 3 => 3 | 46 => 97 | 0 => 0 | 51 => 121 | 53 => 123 | 4 => 4 | 183 => 114 | 182 => 113 | 131 => 70 | 5 => 5 | 9 => 9 | 218 => 132 | 222 => 136 | 228 => 146 | 229 => 147 | n => n, fun | n => n⟩
theorem Tryd.lays189 : Go.Proofs.Lays.n189 Tryd.prog Tryd.lays189_ren := {
  mixed := by kernel_rfl
  f125 := Tryd.func61.trans (congrArg some (by kernel_rfl))
  f128 := Tryd.func86.trans (congrArg some (by kernel_rfl))
  f129 := Tryd.func87.trans (congrArg some (by kernel_rfl))
  f189 := Tryd.func28.trans (congrArg some (by kernel_rfl))
  f215 := Tryd.func108.trans (congrArg some (by kernel_rfl))
  f216 := Tryd.func83.trans (congrArg some (by kernel_rfl))
  f257 := Tryd.func60.trans (congrArg some (by kernel_rfl))
  f294 := Tryd.func77.trans (congrArg some (by kernel_rfl))
  f295 := Tryd.func78.trans (congrArg some (by kernel_rfl))
  f296 := Tryd.func79.trans (congrArg some (by kernel_rfl))
  f297 := Tryd.func80.trans (congrArg some (by kernel_rfl))
  f298 := Tryd.func81.trans (congrArg some (by kernel_rfl))
  f299 := Tryd.func82.trans (congrArg some (by kernel_rfl))
  f300 := Tryd.func84.trans (congrArg some (by kernel_rfl))
  f301 := Tryd.func85.trans (congrArg some (by kernel_rfl))
  f328 := Tryd.func103.trans (congrArg some (by kernel_rfl))
  f329 := Tryd.func104.trans (congrArg some (by kernel_rfl))
  f330 := Tryd.func105.trans (congrArg some (by kernel_rfl))
  f331 := Tryd.func106.trans (congrArg some (by kernel_rfl))
  f332 := Tryd.func107.trans (congrArg some (by kernel_rfl))
  f343 := Tryd.func119.trans (congrArg some (by kernel_rfl))
  t0 := Tryd.underlying0
  a0 := Tryd.isAgg0
  z0 := Tryd.sizeOf0
  v0 := Tryd.zeroValue0
  t3 := Tryd.underlying3
  a3 := Tryd.isAgg3
  z3 := Tryd.sizeOf3
  v3 := Tryd.zeroValue3
  t4 := Tryd.underlying4
  a4 := Tryd.isAgg4
  z4 := Tryd.sizeOf4
  v4 := Tryd.zeroValue4
  t5 := Tryd.underlying5
  a5 := Tryd.isAgg5
  z5 := Tryd.sizeOf5
  v5 := Tryd.zeroValue5
  t9 := Tryd.underlying9
  a9 := Tryd.isAgg9
  z9 := Tryd.sizeOf9
  v9 := Tryd.zeroValue9
  t28 := Tryd.underlying38
  a28 := Tryd.isAgg38
  z28 := Tryd.sizeOf38
  v28 := Tryd.zeroValue38
  t46 := Tryd.underlying97
  a46 := Tryd.isAgg97
  z46 := Tryd.sizeOf97
  v46 := Tryd.zeroValue97
  t51 := Tryd.underlying121
  a51 := Tryd.isAgg121
  z51 := Tryd.sizeOf121
  v51 := Tryd.zeroValue121
  t53 := Tryd.underlying123
  a53 := Tryd.isAgg123
  z53 := Tryd.sizeOf123
  v53 := Tryd.zeroValue123
  t131 := Tryd.underlying70
  a131 := Tryd.isAgg70
  z131 := Tryd.sizeOf70
  v131 := Tryd.zeroValue70
  t182 := Tryd.underlying113
  a182 := Tryd.isAgg113
  z182 := Tryd.sizeOf113
  v182 := Tryd.zeroValue113
  t183 := Tryd.underlying114
  a183 := Tryd.isAgg114
  z183 := Tryd.sizeOf114
  v183 := Tryd.zeroValue114
  t218 := Tryd.underlying132
  a218 := Tryd.isAgg132
  z218 := Tryd.sizeOf132
  v218 := Tryd.zeroValue132
  t222 := Tryd.underlying136
  a222 := Tryd.isAgg136
  z222 := Tryd.sizeOf136
  v222 := Tryd.zeroValue136
  t228 := Tryd.underlying146
  a228 := Tryd.isAgg146
  z228 := Tryd.sizeOf146
  v228 := Tryd.zeroValue146
  t229 := Tryd.underlying147
  a229 := Tryd.isAgg147
  z229 := Tryd.sizeOf147
  v229 := Tryd.zeroValue147 }
open Go.Sort Go.RowKit in
theorem Tryd.slices_Sort_int (blk off cap : Nat) (zs : List Int) (w : World) (hH : Holds (Value.int .i64) w blk off zs.toArray) (hblk : blk < w.heap.size) (hsz : zs.length < 4611686018427387904) :
    Calls Tryd.prog 28 #[.slice (some ⟨blk, off, none⟩) zs.length cap] w fun e w' =>
      e = .returned (.tuple #[]) ∧ ∃ n os, w' = grow (putRow (Value.int .i64) (Sort.ahead w n) blk off (zs.mergeSort fun x y => decide (x ≤ y)).toArray) os := Any.slices_Sort_int Tryd.lays189 blk off cap zs w hH hblk hsz
def Tryd.lays146_ren : Go.Shelf.Ren := ⟨fun | 146 => 68 | 221 => 94 | 268 => 112 | 138 => 16 | 143 => 50 | 195 => 48 | 197 => 124 | 218 => 49 | 219 => 76 | 260 => 128 | 217 => 99 | 225 => 100 | 224 => 101 | 267 => 102 | 266 => 117 | 314 => 118 | n => n, fun | 9 => 9 | 31 => 22 | 3 => 3 | 4 => 4 | 0 => 0 | 105 => 152 | 21 => 21 | 5 => 5 | 46 => 97 | 119 => 156 | 139 => 159 | 138 => 158 | 146 => 144 | 51 => 121 | n => n, fun | 1 => 0 | 3 => 1 | 4 => 2 | n => n⟩
theorem Tryd.lays146 : Go.Proofs.Lays.n146 Tryd.prog Tryd.lays146_ren := {
  mixed := by kernel_rfl
  f138 := Tryd.func16.trans (congrArg some (by kernel_rfl))
  f143 := Tryd.func50.trans (congrArg some (by kernel_rfl))
  f146 := Tryd.func68.trans (congrArg some (by kernel_rfl))
  f195 := Tryd.func48.trans (congrArg some (by kernel_rfl))
  f197 := Tryd.func124.trans (congrArg some (by kernel_rfl))
  f217 := Tryd.func99.trans (congrArg some (by kernel_rfl))
  f218 := Tryd.func49.trans (congrArg some (by kernel_rfl))
  f219 := Tryd.func76.trans (congrArg some (by kernel_rfl))
  f221 := Tryd.func94.trans (congrArg some (by kernel_rfl))
  f224 := Tryd.func101.trans (congrArg some (by kernel_rfl))
  f225 := Tryd.func100.trans (congrArg some (by kernel_rfl))
  f260 := Tryd.func128.trans (congrArg some (by kernel_rfl))
  f266 := Tryd.func117.trans (congrArg some (by kernel_rfl))
  f267 := Tryd.func102.trans (congrArg some (by kernel_rfl))
  f268 := Tryd.func112.trans (congrArg some (by kernel_rfl))
  f314 := Tryd.func118.trans (congrArg some (by kernel_rfl))
  t0 := Tryd.underlying0
  a0 := Tryd.isAgg0
  z0 := Tryd.sizeOf0
  v0 := Tryd.zeroValue0
  t3 := Tryd.underlying3
  a3 := Tryd.isAgg3
  z3 := Tryd.sizeOf3
  v3 := Tryd.zeroValue3
  t4 := Tryd.underlying4
  a4 := Tryd.isAgg4
  z4 := Tryd.sizeOf4
  v4 := Tryd.zeroValue4
  t5 := Tryd.underlying5
  a5 := Tryd.isAgg5
  z5 := Tryd.sizeOf5
  v5 := Tryd.zeroValue5
  t9 := Tryd.underlying9
  a9 := Tryd.isAgg9
  z9 := Tryd.sizeOf9
  v9 := Tryd.zeroValue9
  t21 := Tryd.underlying21
  a21 := Tryd.isAgg21
  z21 := Tryd.sizeOf21
  v21 := Tryd.zeroValue21
  t31 := Tryd.underlying22
  a31 := Tryd.isAgg22
  z31 := Tryd.sizeOf22
  v31 := Tryd.zeroValue22
  t46 := Tryd.underlying97
  a46 := Tryd.isAgg97
  z46 := Tryd.sizeOf97
  v46 := Tryd.zeroValue97
  t51 := Tryd.underlying121
  a51 := Tryd.isAgg121
  z51 := Tryd.sizeOf121
  v51 := Tryd.zeroValue121
  t105 := Tryd.underlying152
  a105 := Tryd.isAgg152
  z105 := Tryd.sizeOf152
  v105 := Tryd.zeroValue152
  t119 := Tryd.underlying156
  a119 := Tryd.isAgg156
  z119 := Tryd.sizeOf156
  t138 := Tryd.underlying158
  a138 := Tryd.isAgg158
  z138 := Tryd.sizeOf158
  v138 := Tryd.zeroValue158
  t139 := Tryd.underlying159
  a139 := Tryd.isAgg159
  z139 := Tryd.sizeOf159
  v139 := Tryd.zeroValue159
  t146 := Tryd.underlying144
  a146 := Tryd.isAgg144
  z146 := Tryd.sizeOf144
  v146 := Tryd.zeroValue144
  g1 := by kernel_rfl
  g3 := by kernel_rfl
  g4 := by kernel_rfl }
open Go.RowKit Go.Lib in
theorem Tryd.strings_Split (s sep : ByteArray) (m : Int) (w : World) (hs : s.size < 4294967281) (hm : w.cell? ⟨0, 0, none⟩ = some (.int .i64 m)) (h1 : 1 ≤ sep.size) :
    Calls Tryd.prog 68 #[.string s, .string sep] w fun e w' =>
      e = .returned (.slice (some ⟨w.heap.size, 0, none⟩) (Lib.countB s sep + 1) (Lib.countB s sep + 1)) ∧ w' = w.alloc (.cells ((Lib.splitB sep 0 (Lib.countB s sep) s).map Value.string).toArray 9) := Any.strings_Split Tryd.lays146 (by kernel_rfl) s sep m w hs hm h1
def Tryd.lays212_ren : Go.Shelf.Ren := ⟨fun | 212 => 111 | 263 => 122 | 264 => 123 | n => n, fun | 46 => 97 | 51 => 121 | 146 => 144 | 53 => 123 | 148 => 150 | n => n, fun | n => n⟩
theorem Tryd.lays212 : Go.Proofs.Lays.n212 Tryd.prog Tryd.lays212_ren := {
  mixed := by kernel_rfl
  f212 := Tryd.func111.trans (congrArg some (by kernel_rfl))
  f263 := Tryd.func122.trans (congrArg some (by kernel_rfl))
  f264 := Tryd.func123.trans (congrArg some (by kernel_rfl))
  t46 := Tryd.underlying97
  a46 := Tryd.isAgg97
  z46 := Tryd.sizeOf97
  v46 := Tryd.zeroValue97
  t51 := Tryd.underlying121
  a51 := Tryd.isAgg121
  z51 := Tryd.sizeOf121
  v51 := Tryd.zeroValue121
  t53 := Tryd.underlying123
  a53 := Tryd.isAgg123
  z53 := Tryd.sizeOf123
  v53 := Tryd.zeroValue123
  t146 := Tryd.underlying144
  a146 := Tryd.isAgg144
  z146 := Tryd.sizeOf144
  v146 := Tryd.zeroValue144
  t148 := Tryd.underlying150
  a148 := Tryd.isAgg150
  z148 := Tryd.sizeOf150
  v148 := Tryd.zeroValue150 }
open Go.RowKit Go.Lib in
theorem Tryd.bits_Mul (x y : Nat) (hx : x < 18446744073709551616) (hy : y < 18446744073709551616) (w : World) :
    Calls Tryd.prog 111 #[.int .u64 x, .int .u64 y] w fun e w' => e = .returned (.tuple #[.int .u64 ((x * y / 18446744073709551616 : Nat) : Int), .int .u64 ((x * y % 18446744073709551616 : Nat) : Int)]) ∧ w' = w := Any.bits_Mul Tryd.lays212 x y hx hy w
def Tryd.lays110_ren : Go.Shelf.Ren := ⟨fun | 110 => 38 | 109 => 69 | n => n, fun | 31 => 22 | 9 => 9 | 4 => 4 | 3 => 3 | 0 => 0 | n => n, fun | n => n⟩
theorem Tryd.lays110 : Go.Proofs.Lays.n110 Tryd.prog Tryd.lays110_ren := {
  mixed := by kernel_rfl
  f109 := Tryd.func69.trans (congrArg some (by kernel_rfl))
  f110 := Tryd.func38.trans (congrArg some (by kernel_rfl))
  t0 := Tryd.underlying0
  a0 := Tryd.isAgg0
  z0 := Tryd.sizeOf0
  v0 := Tryd.zeroValue0
  t3 := Tryd.underlying3
  a3 := Tryd.isAgg3
  z3 := Tryd.sizeOf3
  v3 := Tryd.zeroValue3
  t4 := Tryd.underlying4
  a4 := Tryd.isAgg4
  z4 := Tryd.sizeOf4
  v4 := Tryd.zeroValue4
  t9 := Tryd.underlying9
  a9 := Tryd.isAgg9
  z9 := Tryd.sizeOf9
  v9 := Tryd.zeroValue9
  t31 := Tryd.underlying22
  a31 := Tryd.isAgg22
  z31 := Tryd.sizeOf22
  v31 := Tryd.zeroValue22 }
open Go.Lib in
theorem Tryd.slices_Contains_string (b off n c : Nat) (zs : List ByteArray) (x : ByteArray) (w : World) (hz : n ≤ zs.length) (hbig : n ≤ 9223372036854775807) (hc : ∀ j, j < zs.length → w.cell? ⟨b, off + j, none⟩ = some (.string (zs.getD j ByteArray.empty))) :
    Calls Tryd.prog 38 #[.slice (some ⟨b, off, none⟩) n c, .string x] w fun e w' => e = .returned (.bool (Lib.containsS (zs.take n) x)) ∧ w' = w := Any.slices_Contains_string Tryd.lays110 b off n c zs x w hz hbig hc
open Go.Lib in
theorem Tryd.slices_Contains_string_empty (a : Option Addr) (c : Nat) (x : ByteArray) (w : World) :
    Calls Tryd.prog 38 #[.slice a 0 c, .string x] w fun e w' => e = .returned (.bool false) ∧ w' = w := Any.slices_Contains_string_empty Tryd.lays110 a c x w
def Tryd.lays111_ren : Go.Shelf.Ren := ⟨fun | 111 => 26 | n => n, fun | 28 => 38 | 3 => 3 | 4 => 4 | 0 => 0 | n => n, fun | n => n⟩
theorem Tryd.lays111 : Go.Proofs.Lays.n111 Tryd.prog Tryd.lays111_ren := {
  mixed := by kernel_rfl
  f111 := Tryd.func26.trans (congrArg some (by kernel_rfl))
  t0 := Tryd.underlying0
  a0 := Tryd.isAgg0
  z0 := Tryd.sizeOf0
  v0 := Tryd.zeroValue0
  t3 := Tryd.underlying3
  a3 := Tryd.isAgg3
  z3 := Tryd.sizeOf3
  v3 := Tryd.zeroValue3
  t4 := Tryd.underlying4
  a4 := Tryd.isAgg4
  z4 := Tryd.sizeOf4
  v4 := Tryd.zeroValue4
  t28 := Tryd.underlying38
  a28 := Tryd.isAgg38
  z28 := Tryd.sizeOf38
  v28 := Tryd.zeroValue38 }
open Go.RowKit Go.Lib in
theorem Tryd.slices_Equal_int (b1 o1 n c b2 o2 m d : Nat) (xs ys : List Int) (w : World) (hx : n ≤ xs.length) (hy : m ≤ ys.length) (hbig : n ≤ 9223372036854775807) (hbig2 : m ≤ 9223372036854775807) (hc1 : ∀ j, j < xs.length → w.cell? ⟨b1, o1 + j, none⟩ = some (.int .i64 (xs.getD j 0))) (hc2 : ∀ j, j < ys.length → w.cell? ⟨b2, o2 + j, none⟩ = some (.int .i64 (ys.getD j 0))) :
    Calls Tryd.prog 26 #[.slice (some ⟨b1, o1, none⟩) n c, .slice (some ⟨b2, o2, none⟩) m d] w fun e w' => e = .returned (.bool (xs.take n == ys.take m)) ∧ ∃ q, w' = w.drewN q := Any.slices_Equal_int Tryd.lays111 b1 o1 n c b2 o2 m d xs ys w hx hy hbig hbig2 hc1 hc2
open Go.RowKit Go.Lib in
theorem Tryd.slices_Equal_int_empty (a1 a2 : Option Addr) (c m d : Nat) (w : World) (hbig2 : m ≤ 9223372036854775807) :
    Calls Tryd.prog 26 #[.slice a1 0 c, .slice a2 m d] w fun e w' => e = .returned (.bool (decide (m = 0))) ∧ w' = w := Any.slices_Equal_int_empty Tryd.lays111 a1 a2 c m d w hbig2
def Tryd.laysNm215_ren : Go.Shelf.Ren := ⟨fun | 15 => 58 | n => n, fun | 22 => 38 | 3 => 3 | 4 => 4 | n => n, fun | n => n⟩
theorem Tryd.laysNm215 : Go.Proofs.Lays2.n15 Tryd.prog Tryd.laysNm215_ren := {
  mixed := by kernel_rfl
  f15 := Tryd.func58.trans (congrArg some (by kernel_rfl))
  t3 := Tryd.underlying3
  a3 := Tryd.isAgg3
  z3 := Tryd.sizeOf3
  v3 := Tryd.zeroValue3
  t4 := Tryd.underlying4
  a4 := Tryd.isAgg4
  z4 := Tryd.sizeOf4
  v4 := Tryd.zeroValue4
  t22 := Tryd.underlying38
  a22 := Tryd.isAgg38
  z22 := Tryd.sizeOf38
  v22 := Tryd.zeroValue38
  i3 := by kernel_rfl }
open Go.RowKit Go.Lib in
theorem Tryd.slices_Clone_int (b off n c : Nat) (zs : List Int) (w : World) (hz : n ≤ zs.length) (hbig : n * 8 ≤ 140737488355328) (hc : ∀ j, j < zs.length → w.cell? ⟨b, off + j, none⟩ = some (.int .i64 (zs.getD j 0))) :
    Calls Tryd.prog 58 #[.slice (some ⟨b, off, none⟩) n c] w fun e w' => ∃ v', e = .returned v' ∧ w'.ownsRow w.heap.size 3 1 v' n ((zs.take n).map (Value.int .i64)) ∧ v' ≠ .slice none 0 0 ∧ Below w.heap.size w w' := Any.slices_Clone_int Tryd.laysNm215 b off n c zs w hz hbig hc
open Go.RowKit Go.Lib in
theorem Tryd.slices_Clone_int_nil (n c : Nat) (w : World) :
    Calls Tryd.prog 58 #[.slice none n c] w fun e w' => e = .returned (.slice none 0 0) ∧ w' = w := Any.slices_Clone_int_nil Tryd.laysNm215 n c w
open Go.RowKit Go.Lib in
theorem Tryd.slices_Clone_int_zero (a : Addr) (c : Nat) (w : World) :
    Calls Tryd.prog 58 #[.slice (some a) 0 c] w fun e w' => ∃ v', e = .returned v' ∧ w'.ownsRow w.heap.size 3 1 v' 0 [] ∧ v' ≠ .slice none 0 0 ∧ Below w.heap.size w w' := Any.slices_Clone_int_zero Tryd.laysNm215 a c w
def Tryd.laysNm220_ren : Go.Shelf.Ren := ⟨fun | 20 => 29 | n => n, fun | 22 => 38 | 3 => 3 | 4 => 4 | 0 => 0 | n => n, fun | n => n⟩
theorem Tryd.laysNm220 : Go.Proofs.Lays2.n20 Tryd.prog Tryd.laysNm220_ren := {
  mixed := by kernel_rfl
  f20 := Tryd.func29.trans (congrArg some (by kernel_rfl))
  t0 := Tryd.underlying0
  a0 := Tryd.isAgg0
  z0 := Tryd.sizeOf0
  v0 := Tryd.zeroValue0
  t3 := Tryd.underlying3
  a3 := Tryd.isAgg3
  z3 := Tryd.sizeOf3
  v3 := Tryd.zeroValue3
  t4 := Tryd.underlying4
  a4 := Tryd.isAgg4
  z4 := Tryd.sizeOf4
  v4 := Tryd.zeroValue4
  t22 := Tryd.underlying38
  a22 := Tryd.isAgg38
  z22 := Tryd.sizeOf38
  v22 := Tryd.zeroValue38
  i3 := by kernel_rfl }
open Go.RowKit Go.Lib Go.Sort in
theorem Tryd.slices_Compact_int (blk off cap : Nat) (zs : List Int) (w : World) (hH : Holds (Value.int .i64) w blk off zs.toArray) (hsz : zs.length ≤ 9223372036854775807) (hcap : zs.length ≤ cap) :
    Calls Tryd.prog 29 #[.slice (some ⟨blk, off, none⟩) zs.length cap] w fun e w' => e = .returned (.slice (some ⟨blk, off, none⟩) (Lib.compact zs).length cap) ∧ ∃ q, w' = putRow (Value.int .i64) (Sort.ahead w q) blk off (Lib.compact zs ++ List.replicate (zs.length - (Lib.compact zs).length) 0).toArray := Any.slices_Compact_int Tryd.laysNm220 blk off cap zs w hH hsz hcap
open Go.RowKit Go.Lib Go.Sort in
theorem Tryd.slices_Compact_int_empty (a : Option Addr) (cap : Nat) (w : World) :
    Calls Tryd.prog 29 #[.slice a 0 cap] w fun e w' => e = .returned (.slice a 0 cap) ∧ w' = w := Any.slices_Compact_int_empty Tryd.laysNm220 a cap w
open Go.RowKit Go.Lib in
theorem Tryd.slices_Equal_int_lens (a1 a2 : Option Addr) (n c m d : Nat) (w : World) (hnm : n ≠ m) :
    Calls Tryd.prog 26 #[.slice a1 n c, .slice a2 m d] w fun e w' => e = .returned (.bool false) ∧ w' = w := Any.slices_Equal_int_lens Tryd.lays111 a1 a2 n c m d w hnm
end Go.Proofs
namespace Go.Proofs.YtpfemholpigdeaaDoor
open Go.RowKit
def Quiet (w w' : World) : Prop := ∃ n, w' = w.drewN n
theorem Quiet.refl (w : World) : Quiet w w := ⟨0, rfl⟩
theorem Quiet.of_eq {w w' : World} (h : w = w') : Quiet w w' := ⟨0, h.symm⟩
theorem Quiet.trans {a b c : World} (h : Quiet a b) (k : Quiet b c) : Quiet a c := by
  obtain ⟨n, rfl⟩ := h
  obtain ⟨m, rfl⟩ := k
  exact ⟨n + m, by simp only [World.drewN, Nat.add_assoc]⟩
theorem Quiet.drew {a b : World} (h : Quiet a b) : Quiet a b.drew := h.trans ⟨1, rfl⟩
theorem Quiet.cell {w w' : World} (h : Quiet w w') (a : Addr) : w'.cell? a = w.cell? a := by
  obtain ⟨n, rfl⟩ := h; rfl
theorem Quiet.size {w w' : World} (h : Quiet w w') : w'.heap.size = w.heap.size := by
  obtain ⟨n, rfl⟩ := h; rfl
theorem Quiet.below {w w' : World} (h : Quiet w w') : Below w.heap.size w w' := by
  obtain ⟨n, rfl⟩ := h
  exact below_drewN (Below.refl _ _) n
theorem Hp.quiet {B : Nat} {w0 w w' : World} {L : List Res} (h : Hp B w0 w L) (q : Quiet w w') : Hp B w0 w' L := by
  obtain ⟨n, rfl⟩ := q; exact h.drewN n
theorem Quiet.hp {w w' : World} (q : Quiet w w') : Hp w.heap.size w w' [] := (Hp.refl w).quiet q
theorem contains_str (v : Value) (xs : List ByteArray) (x : ByteArray) (w : World) (h : Strs w v xs) :
    Calls Tryd.prog 38 #[v, .string x] w fun e w' => e = .returned (.bool (Lib.containsS xs x)) ∧ w = w' := by
  obtain ⟨⟨hl, ⟨a, cap, rfl, hc⟩, _⟩, _⟩ := h
  rcases hc with h0 | ⟨b, off, rfl, hc⟩
  · have hx : xs = [] := List.eq_nil_of_length_eq_zero h0
    subst hx
    exact (Tryd.slices_Contains_string_empty a cap x w).mono fun e w' ⟨h1, h2⟩ => ⟨by rw [h1]; rfl, h2.symm⟩
  · refine (Tryd.slices_Contains_string b off xs.length cap xs x w (Nat.le_refl _) (by omega) (fun j hj => ?_)).mono fun e w' ⟨h1, h2⟩ => ⟨?_, h2.symm⟩
    · exact hc j (by omega)
    · rw [h1, List.take_length]
theorem equal_int (v u : Value) (xs ys : List Int) (w : World) (h : Ints w v xs) (k : Ints w u ys) :
    Calls Tryd.prog 26 #[v, u] w fun e w' => e = .returned (.bool (xs == ys)) ∧ Quiet w w' := by
  obtain ⟨hl, ⟨a, cap, rfl, hc⟩, _⟩ := h
  obtain ⟨kl, ⟨b, dap, rfl, kc⟩, _⟩ := k
  by_cases hn : xs.length = ys.length
  · rcases hc with h0 | ⟨b1, off, rfl, hc⟩
    · have hx : xs = [] := List.eq_nil_of_length_eq_zero h0
      subst hx
      have hy : ys = [] := List.eq_nil_of_length_eq_zero hn.symm
      subst hy
      refine (Tryd.slices_Equal_int_empty a b cap 0 dap w (by omega)).mono fun e w' ⟨h1, h2⟩ => ⟨by rw [h1]; rfl, ?_⟩
      rw [h2]; exact Quiet.refl _
    · rcases kc with k0 | ⟨b2, off2, rfl, kc⟩
      · have hy : ys = [] := List.eq_nil_of_length_eq_zero k0
        subst hy
        have hx : xs = [] := List.eq_nil_of_length_eq_zero hn
        subst hx
        refine (Tryd.slices_Equal_int_empty (some ⟨b1, off, none⟩) b cap 0 dap w (by omega)).mono fun e w' ⟨h1, h2⟩ => ⟨by rw [h1]; rfl, ?_⟩
        rw [h2]; exact Quiet.refl _
      · refine (Tryd.slices_Equal_int b1 off xs.length cap b2 off2 ys.length dap xs ys w (Nat.le_refl _) (Nat.le_refl _) (by omega) (by omega) (fun j hj => hc j (by omega)) (fun j hj => kc j (by omega))).mono fun e w' ⟨h1, h2⟩ => ⟨?_, h2⟩
        rw [h1, List.take_length, List.take_length]
  · refine (Tryd.slices_Equal_int_lens a b xs.length cap ys.length dap w hn).mono fun e w' ⟨h1, h2⟩ => ⟨?_, by rw [h2]; exact Quiet.refl _⟩
    have : (xs == ys) = false := by
      rw [beq_eq_false_iff_ne]
      intro e; exact hn (by rw [e])
    rw [h1, this]
theorem clone_int (v : Value) (xs : List Int) (w : World) (h : Ints w v xs) (hb : xs.length ≤ 1000000) :
    Calls Tryd.prog 58 #[v] w fun e w' => ∃ v', e = .returned v' ∧ Hp w.heap.size w w' [irow v' xs] := by
  obtain ⟨hl, ⟨a, cap, rfl, hc⟩, _⟩ := h
  have own : ∀ {v' : Value} {w' : World}, w'.ownsRow w.heap.size 3 1 v' xs.length (ints xs) → Below w.heap.size w w' → Hp w.heap.size w w' [irow v' xs] := by
    intro v' w' h1 h2
    refine (Hp.refl w).fresh h1 h2 fun k hk => ?_
    exact (World.ownsRow.lt h1 k hk).1
  rcases hc with h0 | ⟨b, off, rfl, hc⟩
  · have hx : xs = [] := List.eq_nil_of_length_eq_zero h0
    subst hx
    cases a with
    | none => exact (Tryd.slices_Clone_int_nil 0 cap w).mono fun e w' ⟨h1, h2⟩ => ⟨_, h1, by rw [h2]; exact (Hp.refl w).nil _ _⟩
    | some a => exact (Tryd.slices_Clone_int_zero a cap w).mono fun e w' ⟨v', h1, h2, _, h4⟩ => ⟨v', h1, own h2 h4⟩
  · refine (Tryd.slices_Clone_int b off xs.length cap xs w (Nat.le_refl _) (by omega) (fun j hj => hc j (by omega))).mono fun e w' ⟨v', h1, h2, _, h4⟩ => ⟨v', h1, own ?_ h4⟩
    rw [List.take_length] at h2
    exact h2
def Enters (f : FuncId) : Prop := ∀ (args : Array Value) (w : World), (callFunc f args).run Tryd.prog w = .ok (.enter f args) w
theorem enters_of {f : FuncId} {fn : Func} {c : Code} (hf : Tryd.prog.funcs[f]? = some fn) (hn : (fn.name == "runtime.NumGoroutine") = false) (hb : fn.body = some c) : Enters f := by
  intro args w
  have hn' : ¬ fn.name = "runtime.NumGoroutine" := by simpa using hn
  simp [callFunc, hf, hn', hb, Sem.run_bind, program, Sem.run, Result.andThen]
structure PredI (f : FuncId) (caps : Array Value) (w : World) (xs : List Int) (p : Int → Bool) : Prop where
  enters : Enters f
  call : ∀ x ∈ xs, ∀ w1, Quiet w w1 → Calls Tryd.prog f (#[.int .i64 x] ++ caps) w1 fun e w' => e = .returned (.bool (p x)) ∧ Quiet w1 w'
def findI (p : Int → Bool) (xs : List Int) : Int := match xs.findIdx? p with | some i => (i : Int) | none => -1
theorem findI_hit (p : Int → Bool) (xs : List Int) (k : Nat) (hk : k < xs.length) (h0 : ∀ j, (hj : j < k) → p (xs[j]'(by omega)) = false) (h1 : p xs[k] = true) : findI p xs = k := by
  have : xs.findIdx? p = some k := by
    rw [List.findIdx?_eq_some_iff_getElem]
    exact ⟨hk, h1, fun j hj => by simp [h0 j hj]⟩
  rw [findI, this]
theorem findI_miss (p : Int → Bool) (xs : List Int) (h0 : ∀ j, (hj : j < xs.length) → p xs[j] = false) : findI p xs = -1 := by
  have : xs.findIdx? p = none := by
    rw [List.findIdx?_eq_none_iff]
    intro x hx
    obtain ⟨j, hj, rfl⟩ := List.getElem_of_mem hx
    exact h0 j hj
  rw [findI, this]
theorem findI_any (p : Int → Bool) (xs : List Int) : decide (0 ≤ findI p xs) = xs.any p := by
  unfold findI
  cases h : xs.findIdx? p with
  | none =>
    rw [List.findIdx?_eq_none_iff] at h
    have : xs.any p = false := by rw [List.any_eq_false]; exact fun x hx => by simp [h x hx]
    rw [this]; rfl
  | some i =>
    rw [List.findIdx?_eq_some_iff_getElem] at h
    obtain ⟨hi, h1, _⟩ := h
    have : xs.any p = true := List.any_eq_true.2 ⟨_, List.getElem_mem hi, h1⟩
    rw [this]; simp
set_option maxHeartbeats 1000000 in
theorem indexFunc_int (v : Value) (xs : List Int) (f : FuncId) (caps : Array Value) (p : Int → Bool) (w : World) (h : Ints w v xs) (hf : PredI f caps w xs p) :
    Calls Tryd.prog 73 #[v, .func (.func f) #[] caps] w fun e w' => e = .returned (.int .i64 (findI p xs)) ∧ Quiet w w' := by
  obtain ⟨a, cap, rfl, hl, hc⟩ := h.at
  have HC := Lib.hid hc; clear hc
  have hen := hf.enters
  unfold Enters at hen
  have HF := Lib.hid hf.call; clear hf
  go_enter Tryd.func73, Tryd.ntmps73
  go_wp2_with fail
  go_loopw [8] (fun i wr => ∃ k : Nat, k ≤ xs.length ∧ i = .int .i64 k ∧ Hid (∀ j, (hj : j < k) → (hj2 : j < xs.length) → p xs[j] = false) ∧ Quiet w wr) (fun i _ => xs.length - (intOf i).toNat)
  case atStart => exact ⟨0, by omega, rfl, fun j hj => absurd hj (by omega), Quiet.refl w⟩
  case round =>
    obtain ⟨k, hk, rfl, hno, hq⟩ := hrel
    by_cases hlt : k < xs.length
    · obtain ⟨b, off, rfl, hcell⟩ := HC.out k hlt
      have hcell : wr.cell? ⟨b, off + k, none⟩ = some (.int .i64 xs[k]) := (hq.cell _).trans hcell
      have hcall := HF.out xs[k] (List.getElem_mem hlt) wr hq
      have HCALL := Lib.hid hcall; clear hcall
      generalize hx : xs[k] = x at *
      have HX := Lib.hid hx; clear hx
      go_wp2_with fail
      refine HCALL.out.mono ?_
      rintro e w1 ⟨rfl, hq1⟩
      have HQ := Lib.hid (hq.trans hq1)
      cases hp : p x with
      | true =>
        go_wp2_with fail
        go_ret
        refine ⟨ret_int ?_, HQ.out⟩
        exact (findI_hit p xs k hlt (fun j hj => hno.out j hj (by omega)) (by rw [HX.out]; exact hp)).symm
      | false =>
        go_wp2_with fail
        go_roundw
        case rel =>
          refine ⟨k + 1, by omega, by go_num, ?_, HQ.out⟩
          intro j hj hj2
          rcases Nat.lt_or_ge j k with h1 | h1
          · exact hno.out j h1 hj2
          · obtain rfl : j = k := by omega
            rw [HX.out]; exact hp
        case measure => simp [intOf];omega
    · obtain rfl : k = xs.length := by omega
      go_wp2_with fail
      go_ret
      exact ⟨ret_int (findI_miss p xs (fun j hj => hno.out j hj hj)).symm, hq⟩
set_option maxHeartbeats 1000000 in
theorem containsFunc_int (v : Value) (xs : List Int) (f : FuncId) (caps : Array Value) (p : Int → Bool) (w : World) (h : Ints w v xs) (hf : PredI f caps w xs p) :
    Calls Tryd.prog 44 #[v, .func (.func f) #[] caps] w fun e w' => e = .returned (.bool (xs.any p)) ∧ Quiet w w' := by
  have HF := Lib.hid hf; clear hf
  have HH := Lib.hid h; clear h
  have HA := Lib.hid (findI_any p xs)
  go_enter Tryd.func44, Tryd.ntmps44
  go_wp2_with fail
  refine (indexFunc_int v xs f caps p w HH.out HF.out).mono ?_
  rintro e w1 ⟨rfl, hq⟩
  go_wp2_with fail
  go_ret
  exact ⟨ret_bool HA.out, hq⟩
end Go.Proofs.YtpfemholpigdeaaDoor
namespace Go.Proofs.YtpfemholpigdeaaDoor
open Go.RowKit Go.Maps
open Go.WideElems (Fit rd rg pl rd_val elemAt)
open Go.ChangeMaps (setBlock)
def rawR (v : Value) : Option (DataW Value × List MemPlace) := some (.held v, [])
def MapIs (P : Program) (k : TypeId) (n : Nat) (F : Lit → Option Value) (o : Obj) : Prop :=
  ∃ es clock, o = .map es clock ∧ Fit P k rawR es clock ∧ es.size ≤ n ∧
    ∀ kl z, WideAt.IsKeyLit kl → (DataW.map ((es.toList.map (rg P k rawR)).foldr DataW.insert []) : DataW Value).atKey kl z = match F kl with | some v => .held v | none => z
section
variable {B : Nat} {w0 w w' : World} {L : List Res} {P : Program} {k e t : TypeId} {g n : Nat} {F : Lit → Option Value}
theorem Hp.mapMade (h : Hp B w0 w L) (P : Program) (k : TypeId) {g : Nat} (hg : w.heap.size = g := by first | rfl | simp) : Hp B w0 (w.alloc (.map #[] 0)) (.obj g (MapIs P k 0 fun _ => .none) :: L) := by
  subst hg
  refine h.fresh (r := .obj w.heap.size (MapIs P k 0 fun _ => .none)) ⟨h.base, _, heap_alloc_new w _, ?_⟩ ((Below.refl _ _).alloc (Nat.le_refl _) _) (fun j hj => by simp [Res.blk] at hj;omega)
  obtain ⟨es, clock, hb, hf, hs, hd⟩ := World.ownsMap_made w P k rawR
  rw [heap_alloc_new] at hb
  simp only [Option.some.injEq, Obj.map.injEq] at hb
  obtain ⟨rfl, rfl⟩ := hb
  refine ⟨#[], 0, rfl, hf, by simp, fun kl z _ => ?_⟩
  rfl
theorem MapIs.own {o : Obj} (h : w.heap[g]? = some o) (hm : MapIs P k n F o) : ∃ D : DataW Value, w.ownsMap P k rawR g n D ∧ ∀ kl z, WideAt.IsKeyLit kl → D.atKey kl z = match F kl with | some v => .held v | none => z := by
  obtain ⟨es, clock, rfl, hf, hs, hd⟩ := hm
  exact ⟨_, ⟨es, clock, h, hf, hs, rfl⟩, hd⟩
theorem held_inj {v : Value} {ps : List MemPlace} {d : DataW Value} (h : rawR v = some (d, ps)) : d = .held v := by
  simp only [rawR, Option.some.injEq, Prod.mk.injEq] at h
  exact h.1.symm
theorem Hp.look (h : Hp B w0 w L) (i : Nat) (hi : L[i]? = some (.obj g (MapIs P k n F))) (K : Keyed P k) (ht : P.underlying t = some (.map k e)) {z : Value} (hz : (zeroValue e).run P w = .ok z w) {key : Value} {kl : Lit} (hkey : keyOf P k key = some kl) (hl : WideAt.IsKeyLit kl) :
    (Instr.lookup t (.map (some g)) key false).run P w = .ok ((F kl).getD z) w := by
  obtain ⟨_, o, ho, hm⟩ := h.ok _ (List.mem_of_getElem? hi)
  obtain ⟨D, hown, hd⟩ := MapIs.own ho hm
  obtain ⟨v, ps, hrun, hv⟩ := hown.lookup K ht hz (zd := .held z) (zp := []) rfl hkey
  rw [hrun]
  have h1 := held_inj hv
  rw [hd kl _ hl] at h1
  cases hF : F kl with
  | none => rw [hF] at h1; simp only [DataW.held.injEq] at h1; rw [← h1]; rfl
  | some u => rw [hF] at h1; simp only [DataW.held.injEq] at h1; rw [← h1]; rfl
theorem Hp.lookOk (h : Hp B w0 w L) (i : Nat) (hi : L[i]? = some (.obj g (MapIs P k n F))) (K : Keyed P k) (ht : P.underlying t = some (.map k e)) {z : Value} (hz : (zeroValue e).run P w = .ok z w) {key : Value} {kl : Lit} (hkey : keyOf P k key = some kl) (hl : WideAt.IsKeyLit kl) :
    (Instr.lookup t (.map (some g)) key true).run P w = .ok (.tuple #[(F kl).getD z, .bool (F kl).isSome]) w := by
  obtain ⟨_, o, ho, hm⟩ := h.ok _ (List.mem_of_getElem? hi)
  obtain ⟨D, hown, hd⟩ := MapIs.own ho hm
  obtain ⟨v, ps, hrun, hv⟩ := hown.look_ok K ht hz (zd := .held z) (zp := []) rfl hkey
  rw [hrun]
  have h1 := held_inj hv
  rw [hd kl _ hl] at h1
  have hhas : Maps.has D kl = (F kl).isSome := by
    cases hF : F kl with
    | none =>
      refine Maps.has_false_of_atKey fun z' => ?_
      rw [hd kl z' hl, hF]
    | some u =>
      refine Maps.has_true_of_atKey (y := .held u) fun z' => ?_
      rw [hd kl z' hl, hF]
  rw [hhas]
  cases hF : F kl with
  | none => rw [hF] at h1; simp only [DataW.held.injEq] at h1; rw [← h1]; rfl
  | some u => rw [hF] at h1; simp only [DataW.held.injEq] at h1; rw [← h1]; rfl
def putF (F : Lit → Option Value) (kl : Lit) (v : Value) : Lit → Option Value := fun l => if l.sameKey kl = true then some v else F l
theorem Hp.store (h : Hp B w0 w L) (i : Nat) (hi : L[i]? = some (.obj g (MapIs P k n F))) (K : Keyed P k) (ht : P.underlying t = some (.map k e)) (hn : n < 9223372036854775807) {key val : Value} {kl : Lit} (hkey : keyOf P k key = some kl) (hl : WideAt.IsKeyLit kl) :
    ∃ w', (Instr.mapUpdate t (.map (some g)) key val).run P w = .ok () w' ∧ Hp B w0 w' (L.set i (.obj g (MapIs P k (n + 1) (putF F kl val)))) := by
  obtain ⟨hB, o, ho, hm⟩ := h.ok _ (List.mem_of_getElem? hi)
  obtain ⟨D, hown, hd⟩ := MapIs.own ho hm
  obtain ⟨w', hrun, hown', hg⟩ := hown.update K ht (by unfold maxLen;omega) (val := val) (d := .held val) (ps := []) hkey rfl
  refine ⟨w', hrun, h.turn hi hg (r' := .obj g (MapIs P k (n + 1) (putF F kl val))) ⟨hB, ?_⟩ (fun j hj => .inl hj)⟩
  have hisM := hown.isMap
  obtain ⟨es, clock, hb, hf, hs, hD⟩ := hown'
  refine ⟨_, hb, es, clock, rfl, hf, hs, fun kl' z hl' => ?_⟩
  rw [← hD]
  by_cases he : kl' = kl
  · subst he
    rw [atKey_put_same hisM hl, putF, if_pos (WideAt.sameKey_self hl)]
  · rw [atKey_put_other he, hd kl' z hl', putF, if_neg (by rw [sameKey_ne he]; simp)]
theorem wpList_look_hp {ops : Array Oper} {rest : List Oper} {o : Oper} {a : Act} {Q : Exit → Act → World → Prop} (hg : o.guard = none) (m x : Operand) (t : TypeId) (hop : o.op = Op.lookup t m x false)
    (h : Hp B w0 w L) (i : Nat) (hi : L[i]? = some (.obj g (MapIs P k n F))) (K : Keyed P k) (ht : P.underlying t = some (.map k e)) {z : Value} (hz : (zeroValue e).run P w = .ok z w)
    (hm : a.eval m = .map (some g)) {key : Value} {kl : Lit} (hx : a.eval x = key) (hkey : keyOf P k key = some kl) (hl : WideAt.IsKeyLit kl) {v : Value} (hv : (F kl).getD z = v)
    (hK : wpList P ops Q rest (a.put o.dst v) w) : wpList P ops Q (o :: rest) a w := by
  refine wpList_plain hg fun K' hK' => ?_
  have hrun := h.look i hi K ht hz hkey hl
  rw [hv] at hrun
  unfold Oper.wp
  simp [execOp, hop, hm, hx, hrun, Result.andThen]
  exact hK' _ _ hK
theorem wpList_store_hp {ops : Array Oper} {rest : List Oper} {o : Oper} {a : Act} {Q : Exit → Act → World → Prop} (hg : o.guard = none) (m x v : Operand) (t : TypeId) (hop : o.op = Op.mapUpdate t m x v)
    (h : Hp B w0 w L) (i : Nat) (hi : L[i]? = some (.obj g (MapIs P k n F))) (K : Keyed P k) (ht : P.underlying t = some (.map k e)) (hn : n < 9223372036854775807)
    (hm : a.eval m = .map (some g)) {key val : Value} {kl : Lit} (hx : a.eval x = key) (hv : a.eval v = val) (hkey : keyOf P k key = some kl) (hl : WideAt.IsKeyLit kl)
    (hK : ∀ w', Hp B w0 w' (L.set i (.obj g (MapIs P k (n + 1) (putF F kl val)))) → wpList P ops Q rest (a.put o.dst undef) w') : wpList P ops Q (o :: rest) a w := by
  refine wpList_plain hg fun K' hK' => ?_
  obtain ⟨w', hrun, hp⟩ := h.store i hi K ht hn (val := val) hkey hl
  unfold Oper.wp
  simp [execOp, hop, hm, hx, hv, hrun, Result.andThen]
  exact hK' _ _ (hK w' hp)
end
theorem TKeyI : Keyed Tryd.prog 3 := int_keyed Tryd.underlying3
theorem keyI (x : Int) (h0 : -9223372036854775808 ≤ x) (h1 : x ≤ 9223372036854775807) : keyOf Tryd.prog 3 (.int .i64 x) = some (.int .i64 x) := keyOf_int_mk Tryd.underlying3 (WalkArith.wf_i64 ⟨h0, h1⟩)
theorem litI (x : Int) : WideAt.IsKeyLit (.int .i64 x) := trivial
end Go.Proofs.YtpfemholpigdeaaDoor
namespace Go.Proofs.YtpfemholpigdeaaDoor
open Go.RowKit
section
variable {B : Nat} {w0 w : World} {L : List Res}
theorem Hp.cut (h : Hp B w0 w L) (i : Nat) {e : TypeId} {sz g n cap : Nat} {xs : List Value} (hi : L[i]? = some (.row e sz (.slice (some ⟨g, 0, .none⟩) n cap) n xs)) (k : Nat) (hk : k ≤ n) :
    Hp B w0 w (L.set i (.row e sz (.slice (some ⟨g, 0, .none⟩) k cap) k (xs.take (k * sz)))) := by
  have ho : w.ownsRow B e sz (.slice (some ⟨g, 0, .none⟩) n cap) n xs := h.ok _ (List.mem_of_getElem? hi)
  refine h.turn hi (r' := .row e sz (.slice (some ⟨g, 0, .none⟩) k cap) k (xs.take (k * sz))) ⟨rfl, rfl, rfl, Nat.le_refl _, fun _ _ _ => rfl⟩ ?_ (fun j hj => .inl hj)
  have hl := ho.1
  have hkz : k * sz ≤ n * sz := Nat.mul_le_mul_right _ hk
  refine ⟨by rw [List.length_take, hl, Nat.min_eq_left hkz], ?_⟩
  rcases ho.2 with ⟨h0, _⟩ | ⟨g', cap', cur, h0, h1, h2, h3, h4, h5, h6⟩
  · cases h0
  · cases h0
    exact .inr ⟨_, _, cur, rfl, h1, h2, by omega, h4, h5, by rw [← h6, List.take_take, Nat.min_eq_left hkz]⟩
end
theorem Ent.cut {w0 : World} {L : List Res} (i : Nat) {e : TypeId} {sz g n cap : Nat} {xs : List Value} (hi : L[i]? = some (.row e sz (.slice (some ⟨g, 0, .none⟩) n cap) n xs)) (k : Nat) (hk : k ≤ n) :
    Ent w0 L (L.set i (.row e sz (.slice (some ⟨g, 0, .none⟩) k cap) k (xs.take (k * sz)))) := Ent.mk fun w h => h.cut i hi k hk
section
variable {P : Program} {n : Nat} {w0 : World} {Q : Exit → Fm → List Res → Prop} {K : Fm → List Res → Prop} {F : Fm} {L : List Res} {m : Md} {Lw : List Res} {ops : Array Oper} {rest : List Oper}
  {d : Option Nat} {ty : TypeId} {pos : String} {aft : Array Edge}
theorem TSlice.elem {t e sz bytes : Nat} {z : Value} (T : TSlice P t e sz bytes z) : P.elem t = e := by simp [Program.elem, T.ty.und]
theorem TSlice.und' {t e sz bytes : Nat} {z : Value} (T : TSlice P t e sz bytes z) : P.underlying t = some (.slice (P.elem t)) := by rw [T.elem]; exact T.ty.und
theorem run_sl {t e sz bytes : Nat} {z : Value} (T : TSlice P t e sz bytes z) {ρ : Operand → Value} {x : Operand} {lo hi mx : Option Operand} {v u : Value} (hx : ρ x = v) (w : World) (dd : Option Nat) (p : String) (af : Array Edge) (g : Option (Nat × Bool))
    (h : (Instr.slice t v (lo.map ρ) (hi.map ρ) (mx.map ρ)).run P w = .ok u w) : (execOp ρ ⟨dd, .slice t x lo hi mx, ty, p, af, g⟩).run P w = .ok (.value u) w := by
  subst hx
  have := run_sliceAt_slice (P := P) (w := w) t (ρ x) (lo.map ρ) (hi.map ρ) (mx.map ρ) T.und'
  simp [execOp, this, h, Result.andThen]
theorem OKx_slL {t e sz bytes : Nat} {z : Value} [T : TSlice P t e sz bytes z] {x lo : Operand} {g o len cap l : Nat} {k : IntKind} (hx : rv n F x = .slice (some ⟨g, o, none⟩) len cap) (hl : rv n F lo = .int k (l : Int)) (h1 : l ≤ len)
    (kk : ∀ o', (l < cap → o' = o + l * sz) → OKx P n w0 m ops K rest (updo F d (.slice (some ⟨g, o', none⟩) (len - l) (cap - l))) L) : OKx P n w0 m ops K (⟨d, .slice t x (some lo) none none, ty, pos, aft, none⟩ :: rest) F L :=
  OKx_still (fun w _ _ _ _ _ => run_sl T hx w _ _ _ _ (by
    have := run_slice_l (P := P) (w := w) t (some (⟨g, o, none⟩ : Addr)) len cap T.und' k (l : Int) (by omega) (by omega)
    rw [T.elem, T.size] at this
    simp only [Option.map_none, Option.map_some, hl, this, Result.andThen, sliced, Int.toNat_natCast]
    have e : (if cap = l then (⟨g, o, none⟩ : Addr) else (⟨g, o, none⟩ : Addr).add (l * sz)) = ⟨g, if cap = l then o else o + l * sz, none⟩ := by
      split
      · rfl
      · rw [add_at]
    rw [← e]
    split <;> rfl)) (kk (if cap = l then o else o + l * sz) (fun h => by rw [if_neg (by omega)]))
theorem OKx_remN {t ut : TypeId} {x y : Operand} {a b : Nat} (hx : rv n F x = .int .i64 (a : Int)) (hy : rv n F y = .int .i64 (b : Int)) (hb : 0 < b) (ha : a ≤ 9223372036854775807)
    (k : OKx P n w0 m ops K rest (updo F d (.int .i64 ((a % b : Nat) : Int))) L) : OKx P n w0 m ops K (⟨d, .binOp .rem t x y ut, ty, pos, aft, none⟩ :: rest) F L :=
  OKx_still (fun w _ _ _ _ _ => run_int .rem t x y .i64 a b (by decide) w ut _ _ _ _ _ hx hy (by
    have hb' : (b : Int) ≠ 0 := by omega
    have e : Int.tmod (a : Int) (b : Int) = ((a % b : Nat) : Int) := by rw [Int.tmod_eq_emod_of_nonneg (by omega)]; simp
    have hlt : a % b ≤ a := Nat.mod_le _ _
    have hw : IntKind.i64.wrap ((a % b : Nat) : Int) = ((a % b : Nat) : Int) := wrapI _ ⟨by omega, by omega⟩
    have hb0 : ¬ b = 0 := by omega
    simp only [Op.intDiv]
    simp [hb0, e]
    first | done | exact hw | (rw [← Int.natCast_emod]; exact hw))) k
theorem OKx_conv {src dst : TypeId} {x : Operand} {k : IntKind} {a : Int} (hx : rv n F x = .int k a) (hs : (P.underlying src).isSome = true) (hd : P.underlying dst = some (.int .i64)) (h1 : -9223372036854775808 ≤ a) (h2 : a ≤ 9223372036854775807)
    (kk : OKx P n w0 m ops K rest (updo F d (.int .i64 a)) L) : OKx P n w0 m ops K (⟨d, .convert src dst x, ty, pos, aft, none⟩ :: rest) F L :=
  OKx_still (fun w _ _ _ _ _ => by
    have hk : P.intKind dst = .i64 := by simp [Program.intKind, hd]
    have h := run_convert_int (P := P) (w := w) src dst k a hs (by rw [hk]; exact hd)
    have hw : IntKind.i64.wrap a = a := wrapI _ ⟨h1, h2⟩
    rw [hk, hw] at h
    simp [execOp, hx, h, Result.andThen]) kk
end
end Go.Proofs.YtpfemholpigdeaaDoor
