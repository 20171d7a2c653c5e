/-
  Part 4 of the proof: Shelf, Libf, Map, Fs. No statement of the seat is proved here.
-/
import Derived.Test.YthnlnffmmioapaaGreatDoorMHCl273
import Derived.Shelf.Strings.Builder1
import Derived.Shelf.Strings.Builder2
import Derived.Shelf.Strings.OnBuilder
import Derived.Shelf.Small.Bits
import Derived.Shelf.Small.Strs
import Derived.Shelf.Strings.BuilderF
import Derived.Shelf.Strings.BuilderK
import Derived.Shelf.Strconv.Itoa0
import Derived.Shelf.Strconv.Itoa1
import Derived.Shelf.LaysM
import Derived.Shelf.Strconv.Itoa2
import Derived.Shelf.Strconv.Itoa3
import Derived.Shelf.Strings.Search1
import Derived.Shelf.Strings.Search2
import Derived.Shelf.Strings.Search3
import Derived.Shelf.Strings.Shaped
import Derived.Shelf.Sort.Plain
import Derived.Shelf.Slices.Equal
import Derived.Shelf.Slices.In.SortNone
import Derived.Shelf.Slices.Empties2
import Derived.Test.YthnlnffmmioapaaGreatDoorProg
import Derived.Maps.Own
import Derived.Maps.OwnOps
import Derived.Maps.OwnSet
import Derived.Lib.SliceRun
import Derived.ArgAppend
namespace Go.Proofs
open Go.Shelf
def Tryz.lays169_ren : Go.Shelf.Ren := ⟨fun | 169 => 91 | n => n, fun | 70 => 104 | 9 => 9 | 0 => 0 | 72 => 106 | 37 => 92 | 127 => 125 | 3 => 3 | 5 => 5 | n => n, fun | n => n⟩
theorem Tryz.lays169 : Go.Proofs.Lays.n169 Tryz.prog Tryz.lays169_ren := {
  mixed := by kernel_rfl
  f169 := Tryz.func91.trans (congrArg some (by kernel_rfl))
  t0 := Tryz.underlying0
  a0 := Tryz.isAgg0
  z0 := Tryz.sizeOf0
  v0 := Tryz.zeroValue0
  t3 := Tryz.underlying3
  a3 := Tryz.isAgg3
  z3 := Tryz.sizeOf3
  v3 := Tryz.zeroValue3
  t9 := Tryz.underlying9
  a9 := Tryz.isAgg9
  z9 := Tryz.sizeOf9
  v9 := Tryz.zeroValue9
  t37 := Tryz.underlying92
  a37 := Tryz.isAgg92
  z37 := Tryz.sizeOf92
  v37 := Tryz.zeroValue92
  t70 := Tryz.underlying104
  a70 := Tryz.isAgg104
  z70 := Tryz.sizeOf104
  v70 := Tryz.zeroValue104
  t72 := Tryz.underlying106
  a72 := Tryz.isAgg106
  z72 := Tryz.sizeOf106
  v72 := Tryz.zeroValue106
  t127 := Tryz.underlying125
  a127 := Tryz.isAgg125
  z127 := Tryz.sizeOf125
  v127 := Tryz.zeroValue125 }
theorem Tryz.Builder_Extra_169 : Builder.Extra Tryz.prog Tryz.lays169_ren := {
  sizeBuilder := by kernel_rfl
  liesBuilder := by kernel_rfl
  t5 := Tryz.underlying5
  a5 := Tryz.isAgg5
  z5 := Tryz.sizeOf5
  v5 := Tryz.zeroValue5
  infoByte := by kernel_rfl
  cellsByte := by kernel_rfl
  sizeByte := by kernel_rfl
  neB5 := by decide }
open Go.RowKit in
theorem Tryz.Builder_String_any (B b : Nat) (l : List UInt8) (w : World) (h : Lib.IsBuilder 106 5 B b (Lib.byteCells l) w) (hBw : B ≤ w.heap.size) :
    Calls Tryz.prog 91 #[.pointer (some ⟨b, 0, none⟩)] w fun e w' => e = .returned (.string ⟨l.toArray⟩) ∧ Below B w w' := Any.Builder_String_any Tryz.lays169 Tryz.Builder_Extra_169 B b l w h hBw
def Tryz.lays156_ren : Go.Shelf.Ren := ⟨fun | 156 => 180 | 165 => 189 | 166 => 88 | 169 => 91 | 240 => 107 | 241 => 206 | 276 => 123 | 277 => 219 | n => n, fun | 31 => 25 | 9 => 9 | 3 => 3 | 4 => 4 | 0 => 0 | 20 => 20 | 72 => 106 | 76 => 109 | 70 => 104 | 37 => 92 | 75 => 108 | 127 => 125 | 164 => 138 | 5 => 5 | 80 => 113 | n => n, fun | n => n⟩
theorem Tryz.lays156 : Go.Proofs.Lays.n156 Tryz.prog Tryz.lays156_ren := {
  mixed := by kernel_rfl
  f156 := Tryz.func180.trans (congrArg some (by kernel_rfl))
  f165 := Tryz.func189.trans (congrArg some (by kernel_rfl))
  f166 := Tryz.func88.trans (congrArg some (by kernel_rfl))
  f169 := Tryz.func91.trans (congrArg some (by kernel_rfl))
  f240 := Tryz.func107.trans (congrArg some (by kernel_rfl))
  f241 := Tryz.func206.trans (congrArg some (by kernel_rfl))
  f276 := Tryz.func123.trans (congrArg some (by kernel_rfl))
  f277 := Tryz.func219.trans (congrArg some (by kernel_rfl))
  t0 := Tryz.underlying0
  a0 := Tryz.isAgg0
  z0 := Tryz.sizeOf0
  v0 := Tryz.zeroValue0
  t3 := Tryz.underlying3
  a3 := Tryz.isAgg3
  z3 := Tryz.sizeOf3
  v3 := Tryz.zeroValue3
  t4 := Tryz.underlying4
  a4 := Tryz.isAgg4
  z4 := Tryz.sizeOf4
  v4 := Tryz.zeroValue4
  t9 := Tryz.underlying9
  a9 := Tryz.isAgg9
  z9 := Tryz.sizeOf9
  v9 := Tryz.zeroValue9
  t20 := Tryz.underlying20
  a20 := Tryz.isAgg20
  z20 := Tryz.sizeOf20
  v20 := Tryz.zeroValue20
  t31 := Tryz.underlying25
  a31 := Tryz.isAgg25
  z31 := Tryz.sizeOf25
  v31 := Tryz.zeroValue25
  t37 := Tryz.underlying92
  a37 := Tryz.isAgg92
  z37 := Tryz.sizeOf92
  v37 := Tryz.zeroValue92
  t70 := Tryz.underlying104
  a70 := Tryz.isAgg104
  z70 := Tryz.sizeOf104
  v70 := Tryz.zeroValue104
  t72 := Tryz.underlying106
  a72 := Tryz.isAgg106
  z72 := Tryz.sizeOf106
  v72 := Tryz.zeroValue106
  t75 := Tryz.underlying108
  a75 := Tryz.isAgg108
  z75 := Tryz.sizeOf108
  v75 := Tryz.zeroValue108
  t76 := Tryz.underlying109
  a76 := Tryz.isAgg109
  z76 := Tryz.sizeOf109
  v76 := Tryz.zeroValue109
  t127 := Tryz.underlying125
  a127 := Tryz.isAgg125
  z127 := Tryz.sizeOf125
  v127 := Tryz.zeroValue125
  t164 := Tryz.underlying138
  a164 := Tryz.isAgg138
  z164 := Tryz.sizeOf138
  v164 := Tryz.zeroValue138 }
theorem Tryz.Builder_Extra_156 : Builder.Extra Tryz.prog Tryz.lays156_ren := {
  sizeBuilder := by kernel_rfl
  liesBuilder := by kernel_rfl
  t5 := Tryz.underlying5
  a5 := Tryz.isAgg5
  z5 := Tryz.sizeOf5
  v5 := Tryz.zeroValue5
  infoByte := by kernel_rfl
  cellsByte := by kernel_rfl
  sizeByte := by kernel_rfl
  neB5 := by decide }
open Go.RowKit in
theorem Tryz.strings_Join_none (a : Option Addr) (c : Nat) (sep : ByteArray) (w : World) :
    Calls Tryz.prog 180 #[.slice a 0 c, .string sep] w fun e w' => e = .returned (.string ⟨#[]⟩) ∧ w' = w := Any.strings_Join_none Tryz.lays156 Tryz.Builder_Extra_156 a c sep w
open Go.RowKit in
theorem Tryz.strings_Join (bk o c : Nat) (xs : List ByteArray) (sep : ByteArray) (w : World) (hcells : ∀ (j : Nat) x, xs[j]? = some x → w.cell? ⟨bk, o + j, none⟩ = some (.string x)) (hbk : bk < w.heap.size) (hN : xs.length ≤ 140737488355328) (hcap : xs.length ≤ c) (hlen : (Lib.join (xs.map (·.data.toList)) sep.data.toList).length ≤ 140737488355328) :
    Calls Tryz.prog 180 #[.slice (some ⟨bk, o, none⟩) xs.length c, .string sep] w fun e w' => e = .returned (.string ⟨(Lib.join (xs.map (·.data.toList)) sep.data.toList).toArray⟩) ∧ Below w.heap.size w w' := Any.strings_Join Tryz.lays156 Tryz.Builder_Extra_156 bk o c xs sep w hcells hbk hN hcap hlen
def Tryz.lays137_ren : Go.Shelf.Ren := ⟨fun | 137 => 121 | 217 => 115 | 266 => 126 | n => n, fun | 9 => 9 | 5 => 5 | 3 => 3 | n => n, fun | n => n⟩
theorem Tryz.lays137 : Go.Proofs.Lays.n137 Tryz.prog Tryz.lays137_ren := {
  mixed := by kernel_rfl
  f137 := Tryz.func121.trans (congrArg some (by kernel_rfl))
  f217 := Tryz.func115.trans (congrArg some (by kernel_rfl))
  f266 := Tryz.func126.trans (congrArg some (by kernel_rfl))
  t3 := Tryz.underlying3
  a3 := Tryz.isAgg3
  z3 := Tryz.sizeOf3
  v3 := Tryz.zeroValue3
  t5 := Tryz.underlying5
  a5 := Tryz.isAgg5
  z5 := Tryz.sizeOf5
  v5 := Tryz.zeroValue5
  t9 := Tryz.underlying9
  a9 := Tryz.isAgg9
  z9 := Tryz.sizeOf9
  v9 := Tryz.zeroValue9 }
open Go.RowKit in
theorem Tryz.strings_IndexByte (s : ByteArray) (c : Int) (w : World) :
    Calls Tryz.prog 121 #[.string s, .int .u8 c] w fun e w' => e = .returned (.int .i64 (Lib.indexByte s.data.toList c.toNat.toUInt8)) ∧ w' = w := Any.strings_IndexByte Tryz.lays137 s c w
def Tryz.laysM171_ren : Go.Shelf.Ren := ⟨fun | 171 => 109 | 243 => 124 | 246 => 130 | 283 => 131 | 284 => 132 | 285 => 133 | 286 => 134 | 129 => 136 | 317 => 135 | 318 => 137 | 319 => 138 | 320 => 139 | 337 => 140 | 338 => 141 | n => n, fun | 3 => 3 | 9 => 9 | 2 => 2 | 4 => 4 | 171 => 149 | 0 => 0 | 53 => 150 | 37 => 92 | 5 => 5 | 173 => 153 | 212 => 156 | 51 => 141 | 20 => 20 | 213 => 157 | 46 => 131 | 232 => 160 | 233 => 161 | n => n, fun | 17 => 3 | 18 => 4 | 19 => 5 | n => n⟩
theorem Tryz.laysM171 : Go.Proofs.LaysM.n171 Tryz.prog Tryz.laysM171_ren := {
  mixed := by kernel_rfl
  f129 := Tryz.func136.trans (congrArg some (by kernel_rfl))
  f171 := Tryz.func109.trans (congrArg some (by kernel_rfl))
  f243 := Tryz.func124.trans (congrArg some (by kernel_rfl))
  f246 := Tryz.func130.trans (congrArg some (by kernel_rfl))
  f283 := Tryz.func131.trans (congrArg some (by kernel_rfl))
  f284 := Tryz.func132.trans (congrArg some (by kernel_rfl))
  f285 := Tryz.func133.trans (congrArg some (by kernel_rfl))
  f286 := Tryz.func134.trans (congrArg some (by kernel_rfl))
  f317 := Tryz.func135.trans (congrArg some (by kernel_rfl))
  f318 := Tryz.func137.trans (congrArg some (by kernel_rfl))
  f319 := Tryz.func138.trans (congrArg some (by kernel_rfl))
  f320 := Tryz.func139.trans (congrArg some (by kernel_rfl))
  f337 := Tryz.func140.trans (congrArg some (by kernel_rfl))
  f338 := Tryz.func141.trans (congrArg some (by kernel_rfl))
  t0 := Tryz.underlying0
  a0 := Tryz.isAgg0
  z0 := Tryz.sizeOf0
  v0 := Tryz.zeroValue0
  t2 := Tryz.underlying2
  a2 := Tryz.isAgg2
  z2 := Tryz.sizeOf2
  v2 := Tryz.zeroValue2
  t3 := Tryz.underlying3
  a3 := Tryz.isAgg3
  z3 := Tryz.sizeOf3
  v3 := Tryz.zeroValue3
  t4 := Tryz.underlying4
  a4 := Tryz.isAgg4
  z4 := Tryz.sizeOf4
  v4 := Tryz.zeroValue4
  t5 := Tryz.underlying5
  a5 := Tryz.isAgg5
  z5 := Tryz.sizeOf5
  v5 := Tryz.zeroValue5
  t9 := Tryz.underlying9
  a9 := Tryz.isAgg9
  z9 := Tryz.sizeOf9
  v9 := Tryz.zeroValue9
  t20 := Tryz.underlying20
  a20 := Tryz.isAgg20
  z20 := Tryz.sizeOf20
  v20 := Tryz.zeroValue20
  t37 := Tryz.underlying92
  a37 := Tryz.isAgg92
  z37 := Tryz.sizeOf92
  v37 := Tryz.zeroValue92
  t46 := Tryz.underlying131
  a46 := Tryz.isAgg131
  z46 := Tryz.sizeOf131
  v46 := Tryz.zeroValue131
  t51 := Tryz.underlying141
  a51 := Tryz.isAgg141
  z51 := Tryz.sizeOf141
  v51 := Tryz.zeroValue141
  t53 := Tryz.underlying150
  a53 := Tryz.isAgg150
  z53 := Tryz.sizeOf150
  v53 := Tryz.zeroValue150
  t171 := Tryz.underlying149
  a171 := Tryz.isAgg149
  z171 := Tryz.sizeOf149
  v171 := Tryz.zeroValue149
  t173 := Tryz.underlying153
  a173 := Tryz.isAgg153
  z173 := Tryz.sizeOf153
  v173 := Tryz.zeroValue153
  t212 := Tryz.underlying156
  a212 := Tryz.isAgg156
  z212 := Tryz.sizeOf156
  v212 := Tryz.zeroValue156
  t213 := Tryz.underlying157
  a213 := Tryz.isAgg157
  z213 := Tryz.sizeOf157
  t232 := Tryz.underlying160
  a232 := Tryz.isAgg160
  z232 := Tryz.sizeOf160
  v232 := Tryz.zeroValue160
  t233 := Tryz.underlying161
  a233 := Tryz.isAgg161
  z233 := Tryz.sizeOf161
  v233 := Tryz.zeroValue161
  g17 := by kernel_rfl
  g18 := by kernel_rfl
  g19 := by kernel_rfl
  i0 := by kernel_rfl
  i2 := by kernel_rfl
  i3 := by kernel_rfl
  i4 := by kernel_rfl
  i5 := by kernel_rfl
  i9 := by kernel_rfl
  i20 := by kernel_rfl
  i37 := by kernel_rfl
  i46 := by kernel_rfl
  i51 := by kernel_rfl
  i53 := by kernel_rfl
  i171 := by kernel_rfl
  i173 := by kernel_rfl
  i212 := by kernel_rfl
  i232 := by kernel_rfl
  i233 := by kernel_rfl
  m17 := by kernel_rfl
  m18 := by kernel_rfl
  m19 := by kernel_rfl }
open Go.RowKit Go.Sort Go.Lib in
theorem Tryz.strconv_Itoa (n : Int) (h0 : -9223372036854775808 ≤ n) (h1 : n ≤ 9223372036854775807) (w : World) (htab : Lib.TabIs Tryz.prog w "internal/strconv.uint64pow10" .u64 Lib.pow10Tab) :
    Calls Tryz.prog 109 #[.int .i64 n] w fun e w' => e = .returned (.string ⟨(Lib.itoa n).toArray⟩) ∧ ∃ k os, w' = grow (w.drewN k) os := Any.strconv_Itoa Tryz.laysM171 n h0 h1 w htab
def Tryz.lays144_ren : Go.Shelf.Ren := ⟨fun | 144 => 55 | 143 => 79 | 219 => 98 | 217 => 115 | 225 => 116 | 224 => 117 | 267 => 118 | 266 => 126 | 314 => 127 | n => n, fun | 9 => 9 | 4 => 4 | 3 => 3 | 5 => 5 | 46 => 131 | 146 => 142 | 51 => 141 | n => n, fun | 1 => 2 | n => n⟩
theorem Tryz.lays144 : Go.Proofs.Lays.n144 Tryz.prog Tryz.lays144_ren := {
  mixed := by kernel_rfl
  f143 := Tryz.func79.trans (congrArg some (by kernel_rfl))
  f144 := Tryz.func55.trans (congrArg some (by kernel_rfl))
  f217 := Tryz.func115.trans (congrArg some (by kernel_rfl))
  f219 := Tryz.func98.trans (congrArg some (by kernel_rfl))
  f224 := Tryz.func117.trans (congrArg some (by kernel_rfl))
  f225 := Tryz.func116.trans (congrArg some (by kernel_rfl))
  f266 := Tryz.func126.trans (congrArg some (by kernel_rfl))
  f267 := Tryz.func118.trans (congrArg some (by kernel_rfl))
  f314 := Tryz.func127.trans (congrArg some (by kernel_rfl))
  t3 := Tryz.underlying3
  a3 := Tryz.isAgg3
  z3 := Tryz.sizeOf3
  v3 := Tryz.zeroValue3
  t4 := Tryz.underlying4
  a4 := Tryz.isAgg4
  z4 := Tryz.sizeOf4
  v4 := Tryz.zeroValue4
  t5 := Tryz.underlying5
  a5 := Tryz.isAgg5
  z5 := Tryz.sizeOf5
  v5 := Tryz.zeroValue5
  t9 := Tryz.underlying9
  a9 := Tryz.isAgg9
  z9 := Tryz.sizeOf9
  v9 := Tryz.zeroValue9
  t46 := Tryz.underlying131
  a46 := Tryz.isAgg131
  z46 := Tryz.sizeOf131
  v46 := Tryz.zeroValue131
  t51 := Tryz.underlying141
  a51 := Tryz.isAgg141
  z51 := Tryz.sizeOf141
  v51 := Tryz.zeroValue141
  t146 := Tryz.underlying142
  a146 := Tryz.isAgg142
  z146 := Tryz.sizeOf142
  v146 := Tryz.zeroValue142
  g1 := by kernel_rfl }
open Go.RowKit Go.Lib in
theorem Tryz.strings_Contains_one (s : ByteArray) (c : UInt8) (w : World) :
    Calls Tryz.prog 55 #[.string s, .string ⟨#[c]⟩] w fun e w' => e = .returned (.bool (decide (0 ≤ Lib.indexByte s.data.toList c))) ∧ w' = w := Any.strings_Contains_one Tryz.lays144 s c w
def Tryz.lays190_ren : Go.Shelf.Ren := ⟨fun | 190 => 178 | 125 => 188 | 258 => 187 | 128 => 205 | 129 => 136 | 302 => 196 | 303 => 197 | 304 => 198 | 305 => 199 | 306 => 200 | 307 => 201 | 308 => 202 | 309 => 203 | 310 => 204 | 333 => 213 | 329 => 214 | 330 => 215 | 334 => 216 | 335 => 217 | 336 => 218 | 344 => 221 | n => n, fun | 31 => 25 | 9 => 9 | 3 => 3 | 46 => 131 | 0 => 0 | 51 => 141 | 53 => 150 | 4 => 4 | 183 => 192 | 182 => 191 | 131 => 55 | 5 => 5 | 218 => 204 | 222 => 208 | 228 => 211 | 229 => 212 | n => n, fun | n => n⟩
theorem Tryz.lays190 : Go.Proofs.Lays.n190 Tryz.prog Tryz.lays190_ren := {
  mixed := by kernel_rfl
  f125 := Tryz.func188.trans (congrArg some (by kernel_rfl))
  f128 := Tryz.func205.trans (congrArg some (by kernel_rfl))
  f129 := Tryz.func136.trans (congrArg some (by kernel_rfl))
  f190 := Tryz.func178.trans (congrArg some (by kernel_rfl))
  f258 := Tryz.func187.trans (congrArg some (by kernel_rfl))
  f302 := Tryz.func196.trans (congrArg some (by kernel_rfl))
  f303 := Tryz.func197.trans (congrArg some (by kernel_rfl))
  f304 := Tryz.func198.trans (congrArg some (by kernel_rfl))
  f305 := Tryz.func199.trans (congrArg some (by kernel_rfl))
  f306 := Tryz.func200.trans (congrArg some (by kernel_rfl))
  f307 := Tryz.func201.trans (congrArg some (by kernel_rfl))
  f308 := Tryz.func202.trans (congrArg some (by kernel_rfl))
  f309 := Tryz.func203.trans (congrArg some (by kernel_rfl))
  f310 := Tryz.func204.trans (congrArg some (by kernel_rfl))
  f329 := Tryz.func214.trans (congrArg some (by kernel_rfl))
  f330 := Tryz.func215.trans (congrArg some (by kernel_rfl))
  f333 := Tryz.func213.trans (congrArg some (by kernel_rfl))
  f334 := Tryz.func216.trans (congrArg some (by kernel_rfl))
  f335 := Tryz.func217.trans (congrArg some (by kernel_rfl))
  f336 := Tryz.func218.trans (congrArg some (by kernel_rfl))
  f344 := Tryz.func221.trans (congrArg some (by kernel_rfl))
  t0 := Tryz.underlying0
  a0 := Tryz.isAgg0
  z0 := Tryz.sizeOf0
  v0 := Tryz.zeroValue0
  t3 := Tryz.underlying3
  a3 := Tryz.isAgg3
  z3 := Tryz.sizeOf3
  v3 := Tryz.zeroValue3
  t4 := Tryz.underlying4
  a4 := Tryz.isAgg4
  z4 := Tryz.sizeOf4
  v4 := Tryz.zeroValue4
  t5 := Tryz.underlying5
  a5 := Tryz.isAgg5
  z5 := Tryz.sizeOf5
  v5 := Tryz.zeroValue5
  t9 := Tryz.underlying9
  a9 := Tryz.isAgg9
  z9 := Tryz.sizeOf9
  v9 := Tryz.zeroValue9
  t31 := Tryz.underlying25
  a31 := Tryz.isAgg25
  z31 := Tryz.sizeOf25
  v31 := Tryz.zeroValue25
  t46 := Tryz.underlying131
  a46 := Tryz.isAgg131
  z46 := Tryz.sizeOf131
  v46 := Tryz.zeroValue131
  t51 := Tryz.underlying141
  a51 := Tryz.isAgg141
  z51 := Tryz.sizeOf141
  v51 := Tryz.zeroValue141
  t53 := Tryz.underlying150
  a53 := Tryz.isAgg150
  z53 := Tryz.sizeOf150
  v53 := Tryz.zeroValue150
  t131 := Tryz.underlying55
  a131 := Tryz.isAgg55
  z131 := Tryz.sizeOf55
  v131 := Tryz.zeroValue55
  t182 := Tryz.underlying191
  a182 := Tryz.isAgg191
  z182 := Tryz.sizeOf191
  v182 := Tryz.zeroValue191
  t183 := Tryz.underlying192
  a183 := Tryz.isAgg192
  z183 := Tryz.sizeOf192
  v183 := Tryz.zeroValue192
  t218 := Tryz.underlying204
  a218 := Tryz.isAgg204
  z218 := Tryz.sizeOf204
  v218 := Tryz.zeroValue204
  t222 := Tryz.underlying208
  a222 := Tryz.isAgg208
  z222 := Tryz.sizeOf208
  v222 := Tryz.zeroValue208
  t228 := Tryz.underlying211
  a228 := Tryz.isAgg211
  z228 := Tryz.sizeOf211
  v228 := Tryz.zeroValue211
  t229 := Tryz.underlying212
  a229 := Tryz.isAgg212
  z229 := Tryz.sizeOf212
  v229 := Tryz.zeroValue212 }
open Go.Sort Go.RowKit in
theorem Tryz.slices_Sort_string (blk off cap : Nat) (ss : List (List UInt8)) (w : World) (hH : Holds encStr w blk off ss.toArray) (hblk : blk < w.heap.size) (hsz : ss.length < 4611686018427387904) :
    Calls Tryz.prog 178 #[.slice (some ⟨blk, off, none⟩) ss.length cap] w fun e w' =>
      e = .returned (.tuple #[]) ∧ ∃ n os, w' = grow (putRow encStr (Sort.ahead w n) blk off (ss.mergeSort fun x y => decide (x ≤ y)).toArray) os := Any.slices_Sort_string Tryz.lays190 blk off cap ss w hH hblk hsz
open Go.RowKit Go.Sort in
theorem Tryz.slices_Sort_string_none (p : Option Addr) (cap : Nat) (w : World) :
    Calls Tryz.prog 178 #[.slice p 0 cap] w fun e w' => e = .returned (.tuple #[]) ∧ w' = w := Any.slices_Sort_string_none Tryz.lays190 p cap w
end Go.Proofs
namespace Go.Proofs.YthnlnffmmioapaaGreatDoor
open Go.RowKit
def Quiet (w w' : World) : Prop := ∃ n, w' = w.drewN n
theorem Quiet.refl (w : World) : Quiet w w := ⟨0, rfl⟩
theorem Quiet.trans {a b c : World} (h : Quiet a b) (k : Quiet b c) : Quiet a c := by
  obtain ⟨n, rfl⟩ := h
  obtain ⟨m, rfl⟩ := k
  exact ⟨n + m, by simp only [World.drewN, Nat.add_assoc]⟩
theorem Quiet.drew {a b : World} (h : Quiet a b) : Quiet a b.drew := h.trans ⟨1, rfl⟩
theorem Quiet.cell {w w' : World} (h : Quiet w w') (a : Addr) : w'.cell? a = w.cell? a := by
  obtain ⟨n, rfl⟩ := h; rfl
theorem Quiet.size {w w' : World} (h : Quiet w w') : w'.heap.size = w.heap.size := by
  obtain ⟨n, rfl⟩ := h; rfl
theorem Quiet.below {w w' : World} (h : Quiet w w') : Below w.heap.size w w' := by
  obtain ⟨n, rfl⟩ := h
  exact below_drewN (Below.refl _ _) n
theorem Hp.quiet {B : Nat} {w0 w w' : World} {L : List Res} (h : Hp B w0 w L) (q : Quiet w w') : Hp B w0 w' L := by
  obtain ⟨n, rfl⟩ := q; exact h.drewN n
theorem Quiet.hp {w w' : World} (q : Quiet w w') : Hp w.heap.size w w' [] := (Hp.refl w).quiet q
end Go.Proofs.YthnlnffmmioapaaGreatDoor
namespace Go.Proofs.YthnlnffmmioapaaGreatDoor
open Go.RowKit Go.Maps
open Go.WideElems (Fit rd rg pl rd_val elemAt)
open Go.ChangeMaps (setBlock)
def rawR (v : Value) : Option (DataW Value × List MemPlace) := some (.held v, [])
def MapIs (P : Program) (k : TypeId) (n : Nat) (F : Lit → Option Value) (o : Obj) : Prop :=
  ∃ es clock, o = .map es clock ∧ Fit P k rawR es clock ∧ es.size ≤ n ∧
    ∀ kl z, WideAt.IsKeyLit kl → (DataW.map ((es.toList.map (rg P k rawR)).foldr DataW.insert []) : DataW Value).atKey kl z = match F kl with | some v => .held v | none => z
section
variable {B : Nat} {w0 w w' : World} {L : List Res} {P : Program} {k e t : TypeId} {g n : Nat} {F : Lit → Option Value}
theorem Hp.mapMade (h : Hp B w0 w L) (P : Program) (k : TypeId) {g : Nat} (hg : w.heap.size = g := by first | rfl | simp) : Hp B w0 (w.alloc (.map #[] 0)) (.obj g (MapIs P k 0 fun _ => .none) :: L) := by
  subst hg
  refine h.fresh (r := .obj w.heap.size (MapIs P k 0 fun _ => .none)) ⟨h.base, _, heap_alloc_new w _, ?_⟩ ((Below.refl _ _).alloc (Nat.le_refl _) _) (fun j hj => by simp [Res.blk] at hj;omega)
  obtain ⟨es, clock, hb, hf, hs, hd⟩ := World.ownsMap_made w P k rawR
  rw [heap_alloc_new] at hb
  simp only [Option.some.injEq, Obj.map.injEq] at hb
  obtain ⟨rfl, rfl⟩ := hb
  refine ⟨#[], 0, rfl, hf, by simp, fun kl z _ => ?_⟩
  rfl
theorem MapIs.own {o : Obj} (h : w.heap[g]? = some o) (hm : MapIs P k n F o) : ∃ D : DataW Value, w.ownsMap P k rawR g n D ∧ ∀ kl z, WideAt.IsKeyLit kl → D.atKey kl z = match F kl with | some v => .held v | none => z := by
  obtain ⟨es, clock, rfl, hf, hs, hd⟩ := hm
  exact ⟨_, ⟨es, clock, h, hf, hs, rfl⟩, hd⟩
theorem held_inj {v : Value} {ps : List MemPlace} {d : DataW Value} (h : rawR v = some (d, ps)) : d = .held v := by
  simp only [rawR, Option.some.injEq, Prod.mk.injEq] at h
  exact h.1.symm
theorem Hp.look (h : Hp B w0 w L) (i : Nat) (hi : L[i]? = some (.obj g (MapIs P k n F))) (K : Keyed P k) (ht : P.underlying t = some (.map k e)) {z : Value} (hz : (zeroValue e).run P w = .ok z w) {key : Value} {kl : Lit} (hkey : keyOf P k key = some kl) (hl : WideAt.IsKeyLit kl) :
    (Instr.lookup t (.map (some g)) key false).run P w = .ok ((F kl).getD z) w := by
  obtain ⟨_, o, ho, hm⟩ := h.ok _ (List.mem_of_getElem? hi)
  obtain ⟨D, hown, hd⟩ := MapIs.own ho hm
  obtain ⟨v, ps, hrun, hv⟩ := hown.lookup K ht hz (zd := .held z) (zp := []) rfl hkey
  rw [hrun]
  have h1 := held_inj hv
  rw [hd kl _ hl] at h1
  cases hF : F kl with
  | none => rw [hF] at h1; simp only [DataW.held.injEq] at h1; rw [← h1]; rfl
  | some u => rw [hF] at h1; simp only [DataW.held.injEq] at h1; rw [← h1]; rfl
def putF (F : Lit → Option Value) (kl : Lit) (v : Value) : Lit → Option Value := fun l => if l.sameKey kl = true then some v else F l
theorem Hp.store (h : Hp B w0 w L) (i : Nat) (hi : L[i]? = some (.obj g (MapIs P k n F))) (K : Keyed P k) (ht : P.underlying t = some (.map k e)) (hn : n < 9223372036854775807) {key val : Value} {kl : Lit} (hkey : keyOf P k key = some kl) (hl : WideAt.IsKeyLit kl) :
    ∃ w', (Instr.mapUpdate t (.map (some g)) key val).run P w = .ok () w' ∧ Hp B w0 w' (L.set i (.obj g (MapIs P k (n + 1) (putF F kl val)))) := by
  obtain ⟨hB, o, ho, hm⟩ := h.ok _ (List.mem_of_getElem? hi)
  obtain ⟨D, hown, hd⟩ := MapIs.own ho hm
  obtain ⟨w', hrun, hown', hg⟩ := hown.update K ht (by unfold maxLen;omega) (val := val) (d := .held val) (ps := []) hkey rfl
  refine ⟨w', hrun, h.turn hi hg (r' := .obj g (MapIs P k (n + 1) (putF F kl val))) ⟨hB, ?_⟩ (fun j hj => .inl hj)⟩
  have hisM := hown.isMap
  obtain ⟨es, clock, hb, hf, hs, hD⟩ := hown'
  refine ⟨_, hb, es, clock, rfl, hf, hs, fun kl' z hl' => ?_⟩
  rw [← hD]
  by_cases he : kl' = kl
  · subst he
    rw [atKey_put_same hisM hl, putF, if_pos (WideAt.sameKey_self hl)]
  · rw [atKey_put_other he, hd kl' z hl', putF, if_neg (by rw [sameKey_ne he]; simp)]
end
end Go.Proofs.YthnlnffmmioapaaGreatDoor
namespace Go.Proofs.YthnlnffmmioapaaGreatDoor
open Go.RowKit
section
variable {P : Program} {n : Nat} {w0 : World} {Q : Exit → Fm → List Res → Prop} {K : Fm → List Res → Prop} {F : Fm} {L : List Res} {m : Md} {Lw : List Res} {ops : Array Oper} {rest : List Oper}
  {d : Option Nat} {ty : TypeId} {pos : String} {aft : Array Edge}
theorem TSlice.elem {t e sz bytes : Nat} {z : Value} (T : TSlice P t e sz bytes z) : P.elem t = e := by simp [Program.elem, T.ty.und]
theorem TSlice.und' {t e sz bytes : Nat} {z : Value} (T : TSlice P t e sz bytes z) : P.underlying t = some (.slice (P.elem t)) := by rw [T.elem]; exact T.ty.und
theorem run_sl {t e sz bytes : Nat} {z : Value} (T : TSlice P t e sz bytes z) {ρ : Operand → Value} {x : Operand} {lo hi mx : Option Operand} {v u : Value} (hx : ρ x = v) (w : World) (dd : Option Nat) (p : String) (af : Array Edge) (g : Option (Nat × Bool))
    (h : (Instr.slice t v (lo.map ρ) (hi.map ρ) (mx.map ρ)).run P w = .ok u w) : (execOp ρ ⟨dd, .slice t x lo hi mx, ty, p, af, g⟩).run P w = .ok (.value u) w := by
  subst hx
  have := run_sliceAt_slice (P := P) (w := w) t (ρ x) (lo.map ρ) (hi.map ρ) (mx.map ρ) T.und'
  simp [execOp, this, h, Result.andThen]
theorem OKx_slH {t e sz bytes : Nat} {z : Value} [T : TSlice P t e sz bytes z] {x hi : Operand} {a : Addr} {len cap h : Nat} {k : IntKind} (hx : rv n F x = .slice (some a) len cap) (hh : rv n F hi = .int k (h : Int)) (h1 : h ≤ cap)
    (kk : OKx P n w0 m ops K rest (updo F d (.slice (some a) h cap)) L) : OKx P n w0 m ops K (⟨d, .slice t x none (some hi) none, ty, pos, aft, none⟩ :: rest) F L :=
  OKx_still (fun w _ _ _ _ _ => run_sl T hx w _ _ _ _ (by
    have := run_slice_h (P := P) (w := w) t (some a) len cap T.und' k (h : Int) (by omega) (by omega)
    rw [T.elem, T.size] at this
    simp only [Option.map_none, Option.map_some, hh, this, Result.andThen, sliced, Int.toNat_natCast, Nat.zero_mul, Nat.sub_zero, Addr.add, if_true]
    simp)) kk
theorem OKx_slL {t e sz bytes : Nat} {z : Value} [T : TSlice P t e sz bytes z] {x lo : Operand} {g o len cap l : Nat} {k : IntKind} (hx : rv n F x = .slice (some ⟨g, o, none⟩) len cap) (hl : rv n F lo = .int k (l : Int)) (h1 : l ≤ len)
    (kk : ∀ o', (l < cap → o' = o + l * sz) → OKx P n w0 m ops K rest (updo F d (.slice (some ⟨g, o', none⟩) (len - l) (cap - l))) L) : OKx P n w0 m ops K (⟨d, .slice t x (some lo) none none, ty, pos, aft, none⟩ :: rest) F L :=
  OKx_still (fun w _ _ _ _ _ => run_sl T hx w _ _ _ _ (by
    have := run_slice_l (P := P) (w := w) t (some (⟨g, o, none⟩ : Addr)) len cap T.und' k (l : Int) (by omega) (by omega)
    rw [T.elem, T.size] at this
    simp only [Option.map_none, Option.map_some, hl, this, Result.andThen, sliced, Int.toNat_natCast]
    have e : (if cap = l then (⟨g, o, none⟩ : Addr) else (⟨g, o, none⟩ : Addr).add (l * sz)) = ⟨g, if cap = l then o else o + l * sz, none⟩ := by
      split
      · rfl
      · rw [add_at]
    rw [← e]
    split <;> rfl)) (kk (if cap = l then o else o + l * sz) (fun h => by rw [if_neg (by omega)]))
theorem OKx_remN {t ut : TypeId} {x y : Operand} {a b : Nat} (hx : rv n F x = .int .i64 (a : Int)) (hy : rv n F y = .int .i64 (b : Int)) (hb : 0 < b) (ha : a ≤ 9223372036854775807)
    (k : OKx P n w0 m ops K rest (updo F d (.int .i64 ((a % b : Nat) : Int))) L) : OKx P n w0 m ops K (⟨d, .binOp .rem t x y ut, ty, pos, aft, none⟩ :: rest) F L :=
  OKx_still (fun w _ _ _ _ _ => run_int .rem t x y .i64 a b (by decide) w ut _ _ _ _ _ hx hy (by
    have hb' : (b : Int) ≠ 0 := by omega
    have e : Int.tmod (a : Int) (b : Int) = ((a % b : Nat) : Int) := by rw [Int.tmod_eq_emod_of_nonneg (by omega)]; simp
    have hlt : a % b ≤ a := Nat.mod_le _ _
    have hw : IntKind.i64.wrap ((a % b : Nat) : Int) = ((a % b : Nat) : Int) := wrapI _ ⟨by omega, by omega⟩
    have hb0 : ¬ b = 0 := by omega
    simp only [Op.intDiv]
    simp [hb0, e]
    first | done | exact hw | (rw [← Int.natCast_emod]; exact hw))) k
end
end Go.Proofs.YthnlnffmmioapaaGreatDoor
