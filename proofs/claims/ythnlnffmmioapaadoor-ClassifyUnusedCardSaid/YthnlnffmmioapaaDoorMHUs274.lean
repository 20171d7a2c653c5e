/-
  Part 4 of the proof: Shelf, Libf, Map, Fs. No statement of the seat is proved here.
-/
import Derived.Test.YthnlnffmmioapaaDoorMHUs273
import Derived.Shelf.Strings.Builder1
import Derived.Shelf.Strings.Builder2
import Derived.Shelf.Strings.OnBuilder
import Derived.Shelf.Small.Bits
import Derived.Shelf.Small.Strs
import Derived.Shelf.Strings.BuilderF
import Derived.Shelf.Strings.BuilderK
import Derived.Shelf.Strconv.Itoa0
import Derived.Shelf.Strconv.Itoa1
import Derived.Shelf.LaysM
import Derived.Shelf.Strconv.Itoa2
import Derived.Shelf.Strconv.Itoa3
import Derived.Shelf.Strings.Search1
import Derived.Shelf.Strings.Search2
import Derived.Shelf.Strings.Search3
import Derived.Shelf.Strings.Shaped
import Derived.Shelf.Sort.Plain
import Derived.Shelf.Slices.Turned
import Derived.Shelf.Slices.Equal
import Derived.Shelf.Slices.In.SortNone
import Derived.Shelf.Slices.Empties2
import Derived.Test.YthnlnffmmioapaaDoorProg
import Derived.Maps.Own
import Derived.Maps.OwnOps
import Derived.Maps.OwnSet
import Derived.Lib.SliceRun
import Derived.ArgAppend
namespace Go.Proofs
open Go.Shelf
def Tryd.lays169_ren : Go.Shelf.Ren := ⟨fun | 169 => 70 | n => n, fun | 70 => 100 | 9 => 9 | 0 => 0 | 72 => 103 | 37 => 101 | 127 => 124 | 3 => 3 | 5 => 5 | n => n, fun | n => n⟩
theorem Tryd.lays169 : Go.Proofs.Lays.n169 Tryd.prog Tryd.lays169_ren := {
  mixed := by kernel_rfl
  f169 := Tryd.func70.trans (congrArg some (by kernel_rfl))
  t0 := Tryd.underlying0
  a0 := Tryd.isAgg0
  z0 := Tryd.sizeOf0
  v0 := Tryd.zeroValue0
  t3 := Tryd.underlying3
  a3 := Tryd.isAgg3
  z3 := Tryd.sizeOf3
  v3 := Tryd.zeroValue3
  t9 := Tryd.underlying9
  a9 := Tryd.isAgg9
  z9 := Tryd.sizeOf9
  v9 := Tryd.zeroValue9
  t37 := Tryd.underlying101
  a37 := Tryd.isAgg101
  z37 := Tryd.sizeOf101
  v37 := Tryd.zeroValue101
  t70 := Tryd.underlying100
  a70 := Tryd.isAgg100
  z70 := Tryd.sizeOf100
  v70 := Tryd.zeroValue100
  t72 := Tryd.underlying103
  a72 := Tryd.isAgg103
  z72 := Tryd.sizeOf103
  v72 := Tryd.zeroValue103
  t127 := Tryd.underlying124
  a127 := Tryd.isAgg124
  z127 := Tryd.sizeOf124
  v127 := Tryd.zeroValue124 }
theorem Tryd.Builder_Extra_169 : Builder.Extra Tryd.prog Tryd.lays169_ren := {
  sizeBuilder := by kernel_rfl
  liesBuilder := by kernel_rfl
  t5 := Tryd.underlying5
  a5 := Tryd.isAgg5
  z5 := Tryd.sizeOf5
  v5 := Tryd.zeroValue5
  infoByte := by kernel_rfl
  cellsByte := by kernel_rfl
  sizeByte := by kernel_rfl
  neB5 := by decide }
open Go.RowKit in
theorem Tryd.Builder_String_any (B b : Nat) (l : List UInt8) (w : World) (h : Lib.IsBuilder 103 5 B b (Lib.byteCells l) w) (hBw : B ≤ w.heap.size) :
    Calls Tryd.prog 70 #[.pointer (some ⟨b, 0, none⟩)] w fun e w' => e = .returned (.string ⟨l.toArray⟩) ∧ Below B w w' := Any.Builder_String_any Tryd.lays169 Tryd.Builder_Extra_169 B b l w h hBw
def Tryd.lays156_ren : Go.Shelf.Ren := ⟨fun | 156 => 146 | 165 => 155 | 166 => 67 | 169 => 70 | 240 => 81 | 241 => 172 | 276 => 87 | 277 => 185 | n => n, fun | 31 => 25 | 9 => 9 | 3 => 3 | 4 => 4 | 0 => 0 | 20 => 20 | 72 => 103 | 76 => 106 | 70 => 100 | 37 => 101 | 75 => 105 | 127 => 124 | 164 => 129 | 5 => 5 | 80 => 110 | n => n, fun | n => n⟩
theorem Tryd.lays156 : Go.Proofs.Lays.n156 Tryd.prog Tryd.lays156_ren := {
  mixed := by kernel_rfl
  f156 := Tryd.func146.trans (congrArg some (by kernel_rfl))
  f165 := Tryd.func155.trans (congrArg some (by kernel_rfl))
  f166 := Tryd.func67.trans (congrArg some (by kernel_rfl))
  f169 := Tryd.func70.trans (congrArg some (by kernel_rfl))
  f240 := Tryd.func81.trans (congrArg some (by kernel_rfl))
  f241 := Tryd.func172.trans (congrArg some (by kernel_rfl))
  f276 := Tryd.func87.trans (congrArg some (by kernel_rfl))
  f277 := Tryd.func185.trans (congrArg some (by kernel_rfl))
  t0 := Tryd.underlying0
  a0 := Tryd.isAgg0
  z0 := Tryd.sizeOf0
  v0 := Tryd.zeroValue0
  t3 := Tryd.underlying3
  a3 := Tryd.isAgg3
  z3 := Tryd.sizeOf3
  v3 := Tryd.zeroValue3
  t4 := Tryd.underlying4
  a4 := Tryd.isAgg4
  z4 := Tryd.sizeOf4
  v4 := Tryd.zeroValue4
  t9 := Tryd.underlying9
  a9 := Tryd.isAgg9
  z9 := Tryd.sizeOf9
  v9 := Tryd.zeroValue9
  t20 := Tryd.underlying20
  a20 := Tryd.isAgg20
  z20 := Tryd.sizeOf20
  v20 := Tryd.zeroValue20
  t31 := Tryd.underlying25
  a31 := Tryd.isAgg25
  z31 := Tryd.sizeOf25
  v31 := Tryd.zeroValue25
  t37 := Tryd.underlying101
  a37 := Tryd.isAgg101
  z37 := Tryd.sizeOf101
  v37 := Tryd.zeroValue101
  t70 := Tryd.underlying100
  a70 := Tryd.isAgg100
  z70 := Tryd.sizeOf100
  v70 := Tryd.zeroValue100
  t72 := Tryd.underlying103
  a72 := Tryd.isAgg103
  z72 := Tryd.sizeOf103
  v72 := Tryd.zeroValue103
  t75 := Tryd.underlying105
  a75 := Tryd.isAgg105
  z75 := Tryd.sizeOf105
  v75 := Tryd.zeroValue105
  t76 := Tryd.underlying106
  a76 := Tryd.isAgg106
  z76 := Tryd.sizeOf106
  v76 := Tryd.zeroValue106
  t127 := Tryd.underlying124
  a127 := Tryd.isAgg124
  z127 := Tryd.sizeOf124
  v127 := Tryd.zeroValue124
  t164 := Tryd.underlying129
  a164 := Tryd.isAgg129
  z164 := Tryd.sizeOf129
  v164 := Tryd.zeroValue129 }
theorem Tryd.Builder_Extra_156 : Builder.Extra Tryd.prog Tryd.lays156_ren := {
  sizeBuilder := by kernel_rfl
  liesBuilder := by kernel_rfl
  t5 := Tryd.underlying5
  a5 := Tryd.isAgg5
  z5 := Tryd.sizeOf5
  v5 := Tryd.zeroValue5
  infoByte := by kernel_rfl
  cellsByte := by kernel_rfl
  sizeByte := by kernel_rfl
  neB5 := by decide }
open Go.RowKit in
theorem Tryd.strings_Join_none (a : Option Addr) (c : Nat) (sep : ByteArray) (w : World) :
    Calls Tryd.prog 146 #[.slice a 0 c, .string sep] w fun e w' => e = .returned (.string ⟨#[]⟩) ∧ w' = w := Any.strings_Join_none Tryd.lays156 Tryd.Builder_Extra_156 a c sep w
open Go.RowKit in
theorem Tryd.strings_Join (bk o c : Nat) (xs : List ByteArray) (sep : ByteArray) (w : World) (hcells : ∀ (j : Nat) x, xs[j]? = some x → w.cell? ⟨bk, o + j, none⟩ = some (.string x)) (hbk : bk < w.heap.size) (hN : xs.length ≤ 140737488355328) (hcap : xs.length ≤ c) (hlen : (Lib.join (xs.map (·.data.toList)) sep.data.toList).length ≤ 140737488355328) :
    Calls Tryd.prog 146 #[.slice (some ⟨bk, o, none⟩) xs.length c, .string sep] w fun e w' => e = .returned (.string ⟨(Lib.join (xs.map (·.data.toList)) sep.data.toList).toArray⟩) ∧ Below w.heap.size w w' := Any.strings_Join Tryd.lays156 Tryd.Builder_Extra_156 bk o c xs sep w hcells hbk hN hcap hlen
def Tryd.lays137_ren : Go.Shelf.Ren := ⟨fun | 137 => 85 | 217 => 89 | 266 => 95 | n => n, fun | 9 => 9 | 5 => 5 | 3 => 3 | n => n, fun | n => n⟩
theorem Tryd.lays137 : Go.Proofs.Lays.n137 Tryd.prog Tryd.lays137_ren := {
  mixed := by kernel_rfl
  f137 := Tryd.func85.trans (congrArg some (by kernel_rfl))
  f217 := Tryd.func89.trans (congrArg some (by kernel_rfl))
  f266 := Tryd.func95.trans (congrArg some (by kernel_rfl))
  t3 := Tryd.underlying3
  a3 := Tryd.isAgg3
  z3 := Tryd.sizeOf3
  v3 := Tryd.zeroValue3
  t5 := Tryd.underlying5
  a5 := Tryd.isAgg5
  z5 := Tryd.sizeOf5
  v5 := Tryd.zeroValue5
  t9 := Tryd.underlying9
  a9 := Tryd.isAgg9
  z9 := Tryd.sizeOf9
  v9 := Tryd.zeroValue9 }
open Go.RowKit in
theorem Tryd.strings_IndexByte (s : ByteArray) (c : Int) (w : World) :
    Calls Tryd.prog 85 #[.string s, .int .u8 c] w fun e w' => e = .returned (.int .i64 (Lib.indexByte s.data.toList c.toNat.toUInt8)) ∧ w' = w := Any.strings_IndexByte Tryd.lays137 s c w
def Tryd.laysM171_ren : Go.Shelf.Ren := ⟨fun | 171 => 83 | 243 => 88 | 246 => 94 | 283 => 97 | 284 => 98 | 285 => 99 | 286 => 100 | 129 => 102 | 317 => 101 | 318 => 103 | 319 => 104 | 320 => 105 | 337 => 106 | 338 => 107 | n => n, fun | 3 => 3 | 9 => 9 | 2 => 2 | 4 => 4 | 171 => 141 | 0 => 0 | 53 => 142 | 37 => 101 | 5 => 5 | 173 => 145 | 212 => 148 | 51 => 138 | 20 => 20 | 213 => 149 | 46 => 132 | 232 => 153 | 233 => 154 | n => n, fun | 17 => 3 | 18 => 4 | 19 => 5 | n => n⟩
theorem Tryd.laysM171 : Go.Proofs.LaysM.n171 Tryd.prog Tryd.laysM171_ren := {
  mixed := by kernel_rfl
  f129 := Tryd.func102.trans (congrArg some (by kernel_rfl))
  f171 := Tryd.func83.trans (congrArg some (by kernel_rfl))
  f243 := Tryd.func88.trans (congrArg some (by kernel_rfl))
  f246 := Tryd.func94.trans (congrArg some (by kernel_rfl))
  f283 := Tryd.func97.trans (congrArg some (by kernel_rfl))
  f284 := Tryd.func98.trans (congrArg some (by kernel_rfl))
  f285 := Tryd.func99.trans (congrArg some (by kernel_rfl))
  f286 := Tryd.func100.trans (congrArg some (by kernel_rfl))
  f317 := Tryd.func101.trans (congrArg some (by kernel_rfl))
  f318 := Tryd.func103.trans (congrArg some (by kernel_rfl))
  f319 := Tryd.func104.trans (congrArg some (by kernel_rfl))
  f320 := Tryd.func105.trans (congrArg some (by kernel_rfl))
  f337 := Tryd.func106.trans (congrArg some (by kernel_rfl))
  f338 := Tryd.func107.trans (congrArg some (by kernel_rfl))
  t0 := Tryd.underlying0
  a0 := Tryd.isAgg0
  z0 := Tryd.sizeOf0
  v0 := Tryd.zeroValue0
  t2 := Tryd.underlying2
  a2 := Tryd.isAgg2
  z2 := Tryd.sizeOf2
  v2 := Tryd.zeroValue2
  t3 := Tryd.underlying3
  a3 := Tryd.isAgg3
  z3 := Tryd.sizeOf3
  v3 := Tryd.zeroValue3
  t4 := Tryd.underlying4
  a4 := Tryd.isAgg4
  z4 := Tryd.sizeOf4
  v4 := Tryd.zeroValue4
  t5 := Tryd.underlying5
  a5 := Tryd.isAgg5
  z5 := Tryd.sizeOf5
  v5 := Tryd.zeroValue5
  t9 := Tryd.underlying9
  a9 := Tryd.isAgg9
  z9 := Tryd.sizeOf9
  v9 := Tryd.zeroValue9
  t20 := Tryd.underlying20
  a20 := Tryd.isAgg20
  z20 := Tryd.sizeOf20
  v20 := Tryd.zeroValue20
  t37 := Tryd.underlying101
  a37 := Tryd.isAgg101
  z37 := Tryd.sizeOf101
  v37 := Tryd.zeroValue101
  t46 := Tryd.underlying132
  a46 := Tryd.isAgg132
  z46 := Tryd.sizeOf132
  v46 := Tryd.zeroValue132
  t51 := Tryd.underlying138
  a51 := Tryd.isAgg138
  z51 := Tryd.sizeOf138
  v51 := Tryd.zeroValue138
  t53 := Tryd.underlying142
  a53 := Tryd.isAgg142
  z53 := Tryd.sizeOf142
  v53 := Tryd.zeroValue142
  t171 := Tryd.underlying141
  a171 := Tryd.isAgg141
  z171 := Tryd.sizeOf141
  v171 := Tryd.zeroValue141
  t173 := Tryd.underlying145
  a173 := Tryd.isAgg145
  z173 := Tryd.sizeOf145
  v173 := Tryd.zeroValue145
  t212 := Tryd.underlying148
  a212 := Tryd.isAgg148
  z212 := Tryd.sizeOf148
  v212 := Tryd.zeroValue148
  t213 := Tryd.underlying149
  a213 := Tryd.isAgg149
  z213 := Tryd.sizeOf149
  t232 := Tryd.underlying153
  a232 := Tryd.isAgg153
  z232 := Tryd.sizeOf153
  v232 := Tryd.zeroValue153
  t233 := Tryd.underlying154
  a233 := Tryd.isAgg154
  z233 := Tryd.sizeOf154
  v233 := Tryd.zeroValue154
  g17 := by kernel_rfl
  g18 := by kernel_rfl
  g19 := by kernel_rfl
  i0 := by kernel_rfl
  i2 := by kernel_rfl
  i3 := by kernel_rfl
  i4 := by kernel_rfl
  i5 := by kernel_rfl
  i9 := by kernel_rfl
  i20 := by kernel_rfl
  i37 := by kernel_rfl
  i46 := by kernel_rfl
  i51 := by kernel_rfl
  i53 := by kernel_rfl
  i171 := by kernel_rfl
  i173 := by kernel_rfl
  i212 := by kernel_rfl
  i232 := by kernel_rfl
  i233 := by kernel_rfl
  m17 := by kernel_rfl
  m18 := by kernel_rfl
  m19 := by kernel_rfl }
open Go.RowKit Go.Sort Go.Lib in
theorem Tryd.strconv_Itoa (n : Int) (h0 : -9223372036854775808 ≤ n) (h1 : n ≤ 9223372036854775807) (w : World) (htab : Lib.TabIs Tryd.prog w "internal/strconv.uint64pow10" .u64 Lib.pow10Tab) :
    Calls Tryd.prog 83 #[.int .i64 n] w fun e w' => e = .returned (.string ⟨(Lib.itoa n).toArray⟩) ∧ ∃ k os, w' = grow (w.drewN k) os := Any.strconv_Itoa Tryd.laysM171 n h0 h1 w htab
def Tryd.lays144_ren : Go.Shelf.Ren := ⟨fun | 144 => 58 | 143 => 76 | 219 => 84 | 217 => 89 | 225 => 90 | 224 => 91 | 267 => 92 | 266 => 95 | 314 => 96 | n => n, fun | 9 => 9 | 4 => 4 | 3 => 3 | 5 => 5 | 46 => 132 | 146 => 139 | 51 => 138 | n => n, fun | 1 => 2 | n => n⟩
theorem Tryd.lays144 : Go.Proofs.Lays.n144 Tryd.prog Tryd.lays144_ren := {
  mixed := by kernel_rfl
  f143 := Tryd.func76.trans (congrArg some (by kernel_rfl))
  f144 := Tryd.func58.trans (congrArg some (by kernel_rfl))
  f217 := Tryd.func89.trans (congrArg some (by kernel_rfl))
  f219 := Tryd.func84.trans (congrArg some (by kernel_rfl))
  f224 := Tryd.func91.trans (congrArg some (by kernel_rfl))
  f225 := Tryd.func90.trans (congrArg some (by kernel_rfl))
  f266 := Tryd.func95.trans (congrArg some (by kernel_rfl))
  f267 := Tryd.func92.trans (congrArg some (by kernel_rfl))
  f314 := Tryd.func96.trans (congrArg some (by kernel_rfl))
  t3 := Tryd.underlying3
  a3 := Tryd.isAgg3
  z3 := Tryd.sizeOf3
  v3 := Tryd.zeroValue3
  t4 := Tryd.underlying4
  a4 := Tryd.isAgg4
  z4 := Tryd.sizeOf4
  v4 := Tryd.zeroValue4
  t5 := Tryd.underlying5
  a5 := Tryd.isAgg5
  z5 := Tryd.sizeOf5
  v5 := Tryd.zeroValue5
  t9 := Tryd.underlying9
  a9 := Tryd.isAgg9
  z9 := Tryd.sizeOf9
  v9 := Tryd.zeroValue9
  t46 := Tryd.underlying132
  a46 := Tryd.isAgg132
  z46 := Tryd.sizeOf132
  v46 := Tryd.zeroValue132
  t51 := Tryd.underlying138
  a51 := Tryd.isAgg138
  z51 := Tryd.sizeOf138
  v51 := Tryd.zeroValue138
  t146 := Tryd.underlying139
  a146 := Tryd.isAgg139
  z146 := Tryd.sizeOf139
  v146 := Tryd.zeroValue139
  g1 := by kernel_rfl }
open Go.RowKit Go.Lib in
theorem Tryd.strings_Contains_one (s : ByteArray) (c : UInt8) (w : World) :
    Calls Tryd.prog 58 #[.string s, .string ⟨#[c]⟩] w fun e w' => e = .returned (.bool (decide (0 ≤ Lib.indexByte s.data.toList c))) ∧ w' = w := Any.strings_Contains_one Tryd.lays144 s c w
def Tryd.lays190_ren : Go.Shelf.Ren := ⟨fun | 190 => 144 | 125 => 154 | 258 => 153 | 128 => 171 | 129 => 102 | 302 => 162 | 303 => 163 | 304 => 164 | 305 => 165 | 306 => 166 | 307 => 167 | 308 => 168 | 309 => 169 | 310 => 170 | 333 => 179 | 329 => 180 | 330 => 181 | 334 => 182 | 335 => 183 | 336 => 184 | 344 => 187 | n => n, fun | 31 => 25 | 9 => 9 | 3 => 3 | 46 => 132 | 0 => 0 | 51 => 138 | 53 => 142 | 4 => 4 | 183 => 189 | 182 => 188 | 131 => 90 | 5 => 5 | 218 => 201 | 222 => 205 | 228 => 208 | 229 => 209 | n => n, fun | n => n⟩
theorem Tryd.lays190 : Go.Proofs.Lays.n190 Tryd.prog Tryd.lays190_ren := {
  mixed := by kernel_rfl
  f125 := Tryd.func154.trans (congrArg some (by kernel_rfl))
  f128 := Tryd.func171.trans (congrArg some (by kernel_rfl))
  f129 := Tryd.func102.trans (congrArg some (by kernel_rfl))
  f190 := Tryd.func144.trans (congrArg some (by kernel_rfl))
  f258 := Tryd.func153.trans (congrArg some (by kernel_rfl))
  f302 := Tryd.func162.trans (congrArg some (by kernel_rfl))
  f303 := Tryd.func163.trans (congrArg some (by kernel_rfl))
  f304 := Tryd.func164.trans (congrArg some (by kernel_rfl))
  f305 := Tryd.func165.trans (congrArg some (by kernel_rfl))
  f306 := Tryd.func166.trans (congrArg some (by kernel_rfl))
  f307 := Tryd.func167.trans (congrArg some (by kernel_rfl))
  f308 := Tryd.func168.trans (congrArg some (by kernel_rfl))
  f309 := Tryd.func169.trans (congrArg some (by kernel_rfl))
  f310 := Tryd.func170.trans (congrArg some (by kernel_rfl))
  f329 := Tryd.func180.trans (congrArg some (by kernel_rfl))
  f330 := Tryd.func181.trans (congrArg some (by kernel_rfl))
  f333 := Tryd.func179.trans (congrArg some (by kernel_rfl))
  f334 := Tryd.func182.trans (congrArg some (by kernel_rfl))
  f335 := Tryd.func183.trans (congrArg some (by kernel_rfl))
  f336 := Tryd.func184.trans (congrArg some (by kernel_rfl))
  f344 := Tryd.func187.trans (congrArg some (by kernel_rfl))
  t0 := Tryd.underlying0
  a0 := Tryd.isAgg0
  z0 := Tryd.sizeOf0
  v0 := Tryd.zeroValue0
  t3 := Tryd.underlying3
  a3 := Tryd.isAgg3
  z3 := Tryd.sizeOf3
  v3 := Tryd.zeroValue3
  t4 := Tryd.underlying4
  a4 := Tryd.isAgg4
  z4 := Tryd.sizeOf4
  v4 := Tryd.zeroValue4
  t5 := Tryd.underlying5
  a5 := Tryd.isAgg5
  z5 := Tryd.sizeOf5
  v5 := Tryd.zeroValue5
  t9 := Tryd.underlying9
  a9 := Tryd.isAgg9
  z9 := Tryd.sizeOf9
  v9 := Tryd.zeroValue9
  t31 := Tryd.underlying25
  a31 := Tryd.isAgg25
  z31 := Tryd.sizeOf25
  v31 := Tryd.zeroValue25
  t46 := Tryd.underlying132
  a46 := Tryd.isAgg132
  z46 := Tryd.sizeOf132
  v46 := Tryd.zeroValue132
  t51 := Tryd.underlying138
  a51 := Tryd.isAgg138
  z51 := Tryd.sizeOf138
  v51 := Tryd.zeroValue138
  t53 := Tryd.underlying142
  a53 := Tryd.isAgg142
  z53 := Tryd.sizeOf142
  v53 := Tryd.zeroValue142
  t131 := Tryd.underlying90
  a131 := Tryd.isAgg90
  z131 := Tryd.sizeOf90
  v131 := Tryd.zeroValue90
  t182 := Tryd.underlying188
  a182 := Tryd.isAgg188
  z182 := Tryd.sizeOf188
  v182 := Tryd.zeroValue188
  t183 := Tryd.underlying189
  a183 := Tryd.isAgg189
  z183 := Tryd.sizeOf189
  v183 := Tryd.zeroValue189
  t218 := Tryd.underlying201
  a218 := Tryd.isAgg201
  z218 := Tryd.sizeOf201
  v218 := Tryd.zeroValue201
  t222 := Tryd.underlying205
  a222 := Tryd.isAgg205
  z222 := Tryd.sizeOf205
  v222 := Tryd.zeroValue205
  t228 := Tryd.underlying208
  a228 := Tryd.isAgg208
  z228 := Tryd.sizeOf208
  v228 := Tryd.zeroValue208
  t229 := Tryd.underlying209
  a229 := Tryd.isAgg209
  z229 := Tryd.sizeOf209
  v229 := Tryd.zeroValue209 }
open Go.Sort Go.RowKit in
theorem Tryd.slices_Sort_string (blk off cap : Nat) (ss : List (List UInt8)) (w : World) (hH : Holds encStr w blk off ss.toArray) (hblk : blk < w.heap.size) (hsz : ss.length < 4611686018427387904) :
    Calls Tryd.prog 144 #[.slice (some ⟨blk, off, none⟩) ss.length cap] w fun e w' =>
      e = .returned (.tuple #[]) ∧ ∃ n os, w' = grow (putRow encStr (Sort.ahead w n) blk off (ss.mergeSort fun x y => decide (x ≤ y)).toArray) os := Any.slices_Sort_string Tryd.lays190 blk off cap ss w hH hblk hsz
def Tryd.lays110_ren : Go.Shelf.Ren := ⟨fun | 110 => 26 | 109 => 52 | n => n, fun | 31 => 25 | 9 => 9 | 4 => 4 | 3 => 3 | 0 => 0 | n => n, fun | n => n⟩
theorem Tryd.lays110 : Go.Proofs.Lays.n110 Tryd.prog Tryd.lays110_ren := {
  mixed := by kernel_rfl
  f109 := Tryd.func52.trans (congrArg some (by kernel_rfl))
  f110 := Tryd.func26.trans (congrArg some (by kernel_rfl))
  t0 := Tryd.underlying0
  a0 := Tryd.isAgg0
  z0 := Tryd.sizeOf0
  v0 := Tryd.zeroValue0
  t3 := Tryd.underlying3
  a3 := Tryd.isAgg3
  z3 := Tryd.sizeOf3
  v3 := Tryd.zeroValue3
  t4 := Tryd.underlying4
  a4 := Tryd.isAgg4
  z4 := Tryd.sizeOf4
  v4 := Tryd.zeroValue4
  t9 := Tryd.underlying9
  a9 := Tryd.isAgg9
  z9 := Tryd.sizeOf9
  v9 := Tryd.zeroValue9
  t31 := Tryd.underlying25
  a31 := Tryd.isAgg25
  z31 := Tryd.sizeOf25
  v31 := Tryd.zeroValue25 }
open Go.Lib in
theorem Tryd.slices_Contains_string (b off n c : Nat) (zs : List ByteArray) (x : ByteArray) (w : World) (hz : n ≤ zs.length) (hbig : n ≤ 9223372036854775807) (hc : ∀ j, j < zs.length → w.cell? ⟨b, off + j, none⟩ = some (.string (zs.getD j ByteArray.empty))) :
    Calls Tryd.prog 26 #[.slice (some ⟨b, off, none⟩) n c, .string x] w fun e w' => e = .returned (.bool (Lib.containsS (zs.take n) x)) ∧ w' = w := Any.slices_Contains_string Tryd.lays110 b off n c zs x w hz hbig hc
open Go.Lib in
theorem Tryd.slices_Contains_string_empty (a : Option Addr) (c : Nat) (x : ByteArray) (w : World) :
    Calls Tryd.prog 26 #[.slice a 0 c, .string x] w fun e w' => e = .returned (.bool false) ∧ w' = w := Any.slices_Contains_string_empty Tryd.lays110 a c x w
open Go.RowKit Go.Sort in
theorem Tryd.slices_Sort_string_none (p : Option Addr) (cap : Nat) (w : World) :
    Calls Tryd.prog 144 #[.slice p 0 cap] w fun e w' => e = .returned (.tuple #[]) ∧ w' = w := Any.slices_Sort_string_none Tryd.lays190 p cap w
end Go.Proofs
namespace Go.Proofs.YthnlnffmmioapaaDoor
open Go.RowKit
def Quiet (w w' : World) : Prop := ∃ n, w' = w.drewN n
theorem Quiet.refl (w : World) : Quiet w w := ⟨0, rfl⟩
theorem Quiet.trans {a b c : World} (h : Quiet a b) (k : Quiet b c) : Quiet a c := by
  obtain ⟨n, rfl⟩ := h
  obtain ⟨m, rfl⟩ := k
  exact ⟨n + m, by simp only [World.drewN, Nat.add_assoc]⟩
theorem Quiet.drew {a b : World} (h : Quiet a b) : Quiet a b.drew := h.trans ⟨1, rfl⟩
theorem Quiet.cell {w w' : World} (h : Quiet w w') (a : Addr) : w'.cell? a = w.cell? a := by
  obtain ⟨n, rfl⟩ := h; rfl
theorem Quiet.size {w w' : World} (h : Quiet w w') : w'.heap.size = w.heap.size := by
  obtain ⟨n, rfl⟩ := h; rfl
theorem Quiet.below {w w' : World} (h : Quiet w w') : Below w.heap.size w w' := by
  obtain ⟨n, rfl⟩ := h
  exact below_drewN (Below.refl _ _) n
theorem Hp.quiet {B : Nat} {w0 w w' : World} {L : List Res} (h : Hp B w0 w L) (q : Quiet w w') : Hp B w0 w' L := by
  obtain ⟨n, rfl⟩ := q; exact h.drewN n
theorem Quiet.hp {w w' : World} (q : Quiet w w') : Hp w.heap.size w w' [] := (Hp.refl w).quiet q
theorem contains_str (v : Value) (xs : List ByteArray) (x : ByteArray) (w : World) (h : Strs w v xs) :
    Calls Tryd.prog 26 #[v, .string x] w fun e w' => e = .returned (.bool (Lib.containsS xs x)) ∧ w = w' := by
  obtain ⟨⟨hl, ⟨a, cap, rfl, hc⟩, _⟩, _⟩ := h
  rcases hc with h0 | ⟨b, off, rfl, hc⟩
  · have hx : xs = [] := List.eq_nil_of_length_eq_zero h0
    subst hx
    exact (Tryd.slices_Contains_string_empty a cap x w).mono fun e w' ⟨h1, h2⟩ => ⟨by rw [h1]; rfl, h2.symm⟩
  · refine (Tryd.slices_Contains_string b off xs.length cap xs x w (Nat.le_refl _) (by omega) (fun j hj => ?_)).mono fun e w' ⟨h1, h2⟩ => ⟨?_, h2.symm⟩
    · exact hc j (by omega)
    · rw [h1, List.take_length]
end Go.Proofs.YthnlnffmmioapaaDoor
namespace Go.Proofs.YthnlnffmmioapaaDoor
open Go.RowKit Go.Maps
open Go.WideElems (Fit rd rg pl rd_val elemAt)
open Go.ChangeMaps (setBlock)
def rawR (v : Value) : Option (DataW Value × List MemPlace) := some (.held v, [])
def MapIs (P : Program) (k : TypeId) (n : Nat) (F : Lit → Option Value) (o : Obj) : Prop :=
  ∃ es clock, o = .map es clock ∧ Fit P k rawR es clock ∧ es.size ≤ n ∧
    ∀ kl z, WideAt.IsKeyLit kl → (DataW.map ((es.toList.map (rg P k rawR)).foldr DataW.insert []) : DataW Value).atKey kl z = match F kl with | some v => .held v | none => z
section
variable {B : Nat} {w0 w w' : World} {L : List Res} {P : Program} {k e t : TypeId} {g n : Nat} {F : Lit → Option Value}
theorem Hp.mapMade (h : Hp B w0 w L) (P : Program) (k : TypeId) {g : Nat} (hg : w.heap.size = g := by first | rfl | simp) : Hp B w0 (w.alloc (.map #[] 0)) (.obj g (MapIs P k 0 fun _ => .none) :: L) := by
  subst hg
  refine h.fresh (r := .obj w.heap.size (MapIs P k 0 fun _ => .none)) ⟨h.base, _, heap_alloc_new w _, ?_⟩ ((Below.refl _ _).alloc (Nat.le_refl _) _) (fun j hj => by simp [Res.blk] at hj;omega)
  obtain ⟨es, clock, hb, hf, hs, hd⟩ := World.ownsMap_made w P k rawR
  rw [heap_alloc_new] at hb
  simp only [Option.some.injEq, Obj.map.injEq] at hb
  obtain ⟨rfl, rfl⟩ := hb
  refine ⟨#[], 0, rfl, hf, by simp, fun kl z _ => ?_⟩
  rfl
theorem MapIs.own {o : Obj} (h : w.heap[g]? = some o) (hm : MapIs P k n F o) : ∃ D : DataW Value, w.ownsMap P k rawR g n D ∧ ∀ kl z, WideAt.IsKeyLit kl → D.atKey kl z = match F kl with | some v => .held v | none => z := by
  obtain ⟨es, clock, rfl, hf, hs, hd⟩ := hm
  exact ⟨_, ⟨es, clock, h, hf, hs, rfl⟩, hd⟩
theorem held_inj {v : Value} {ps : List MemPlace} {d : DataW Value} (h : rawR v = some (d, ps)) : d = .held v := by
  simp only [rawR, Option.some.injEq, Prod.mk.injEq] at h
  exact h.1.symm
theorem Hp.look (h : Hp B w0 w L) (i : Nat) (hi : L[i]? = some (.obj g (MapIs P k n F))) (K : Keyed P k) (ht : P.underlying t = some (.map k e)) {z : Value} (hz : (zeroValue e).run P w = .ok z w) {key : Value} {kl : Lit} (hkey : keyOf P k key = some kl) (hl : WideAt.IsKeyLit kl) :
    (Instr.lookup t (.map (some g)) key false).run P w = .ok ((F kl).getD z) w := by
  obtain ⟨_, o, ho, hm⟩ := h.ok _ (List.mem_of_getElem? hi)
  obtain ⟨D, hown, hd⟩ := MapIs.own ho hm
  obtain ⟨v, ps, hrun, hv⟩ := hown.lookup K ht hz (zd := .held z) (zp := []) rfl hkey
  rw [hrun]
  have h1 := held_inj hv
  rw [hd kl _ hl] at h1
  cases hF : F kl with
  | none => rw [hF] at h1; simp only [DataW.held.injEq] at h1; rw [← h1]; rfl
  | some u => rw [hF] at h1; simp only [DataW.held.injEq] at h1; rw [← h1]; rfl
def putF (F : Lit → Option Value) (kl : Lit) (v : Value) : Lit → Option Value := fun l => if l.sameKey kl = true then some v else F l
theorem Hp.store (h : Hp B w0 w L) (i : Nat) (hi : L[i]? = some (.obj g (MapIs P k n F))) (K : Keyed P k) (ht : P.underlying t = some (.map k e)) (hn : n < 9223372036854775807) {key val : Value} {kl : Lit} (hkey : keyOf P k key = some kl) (hl : WideAt.IsKeyLit kl) :
    ∃ w', (Instr.mapUpdate t (.map (some g)) key val).run P w = .ok () w' ∧ Hp B w0 w' (L.set i (.obj g (MapIs P k (n + 1) (putF F kl val)))) := by
  obtain ⟨hB, o, ho, hm⟩ := h.ok _ (List.mem_of_getElem? hi)
  obtain ⟨D, hown, hd⟩ := MapIs.own ho hm
  obtain ⟨w', hrun, hown', hg⟩ := hown.update K ht (by unfold maxLen;omega) (val := val) (d := .held val) (ps := []) hkey rfl
  refine ⟨w', hrun, h.turn hi hg (r' := .obj g (MapIs P k (n + 1) (putF F kl val))) ⟨hB, ?_⟩ (fun j hj => .inl hj)⟩
  have hisM := hown.isMap
  obtain ⟨es, clock, hb, hf, hs, hD⟩ := hown'
  refine ⟨_, hb, es, clock, rfl, hf, hs, fun kl' z hl' => ?_⟩
  rw [← hD]
  by_cases he : kl' = kl
  · subst he
    rw [atKey_put_same hisM hl, putF, if_pos (WideAt.sameKey_self hl)]
  · rw [atKey_put_other he, hd kl' z hl', putF, if_neg (by rw [sameKey_ne he]; simp)]
end
end Go.Proofs.YthnlnffmmioapaaDoor
namespace Go.Proofs.YthnlnffmmioapaaDoor
open Go.RowKit
section
variable {P : Program} {n : Nat} {w0 : World} {Q : Exit → Fm → List Res → Prop} {K : Fm → List Res → Prop} {F : Fm} {L : List Res} {m : Md} {Lw : List Res} {ops : Array Oper} {rest : List Oper}
  {d : Option Nat} {ty : TypeId} {pos : String} {aft : Array Edge}
theorem TSlice.elem {t e sz bytes : Nat} {z : Value} (T : TSlice P t e sz bytes z) : P.elem t = e := by simp [Program.elem, T.ty.und]
theorem TSlice.und' {t e sz bytes : Nat} {z : Value} (T : TSlice P t e sz bytes z) : P.underlying t = some (.slice (P.elem t)) := by rw [T.elem]; exact T.ty.und
theorem run_sl {t e sz bytes : Nat} {z : Value} (T : TSlice P t e sz bytes z) {ρ : Operand → Value} {x : Operand} {lo hi mx : Option Operand} {v u : Value} (hx : ρ x = v) (w : World) (dd : Option Nat) (p : String) (af : Array Edge) (g : Option (Nat × Bool))
    (h : (Instr.slice t v (lo.map ρ) (hi.map ρ) (mx.map ρ)).run P w = .ok u w) : (execOp ρ ⟨dd, .slice t x lo hi mx, ty, p, af, g⟩).run P w = .ok (.value u) w := by
  subst hx
  have := run_sliceAt_slice (P := P) (w := w) t (ρ x) (lo.map ρ) (hi.map ρ) (mx.map ρ) T.und'
  simp [execOp, this, h, Result.andThen]
theorem OKx_slH {t e sz bytes : Nat} {z : Value} [T : TSlice P t e sz bytes z] {x hi : Operand} {a : Addr} {len cap h : Nat} {k : IntKind} (hx : rv n F x = .slice (some a) len cap) (hh : rv n F hi = .int k (h : Int)) (h1 : h ≤ cap)
    (kk : OKx P n w0 m ops K rest (updo F d (.slice (some a) h cap)) L) : OKx P n w0 m ops K (⟨d, .slice t x none (some hi) none, ty, pos, aft, none⟩ :: rest) F L :=
  OKx_still (fun w _ _ _ _ _ => run_sl T hx w _ _ _ _ (by
    have := run_slice_h (P := P) (w := w) t (some a) len cap T.und' k (h : Int) (by omega) (by omega)
    rw [T.elem, T.size] at this
    simp only [Option.map_none, Option.map_some, hh, this, Result.andThen, sliced, Int.toNat_natCast, Nat.zero_mul, Nat.sub_zero, Addr.add, if_true]
    simp)) kk
theorem OKx_slL {t e sz bytes : Nat} {z : Value} [T : TSlice P t e sz bytes z] {x lo : Operand} {g o len cap l : Nat} {k : IntKind} (hx : rv n F x = .slice (some ⟨g, o, none⟩) len cap) (hl : rv n F lo = .int k (l : Int)) (h1 : l ≤ len)
    (kk : ∀ o', (l < cap → o' = o + l * sz) → OKx P n w0 m ops K rest (updo F d (.slice (some ⟨g, o', none⟩) (len - l) (cap - l))) L) : OKx P n w0 m ops K (⟨d, .slice t x (some lo) none none, ty, pos, aft, none⟩ :: rest) F L :=
  OKx_still (fun w _ _ _ _ _ => run_sl T hx w _ _ _ _ (by
    have := run_slice_l (P := P) (w := w) t (some (⟨g, o, none⟩ : Addr)) len cap T.und' k (l : Int) (by omega) (by omega)
    rw [T.elem, T.size] at this
    simp only [Option.map_none, Option.map_some, hl, this, Result.andThen, sliced, Int.toNat_natCast]
    have e : (if cap = l then (⟨g, o, none⟩ : Addr) else (⟨g, o, none⟩ : Addr).add (l * sz)) = ⟨g, if cap = l then o else o + l * sz, none⟩ := by
      split
      · rfl
      · rw [add_at]
    rw [← e]
    split <;> rfl)) (kk (if cap = l then o else o + l * sz) (fun h => by rw [if_neg (by omega)]))
theorem OKx_remN {t ut : TypeId} {x y : Operand} {a b : Nat} (hx : rv n F x = .int .i64 (a : Int)) (hy : rv n F y = .int .i64 (b : Int)) (hb : 0 < b) (ha : a ≤ 9223372036854775807)
    (k : OKx P n w0 m ops K rest (updo F d (.int .i64 ((a % b : Nat) : Int))) L) : OKx P n w0 m ops K (⟨d, .binOp .rem t x y ut, ty, pos, aft, none⟩ :: rest) F L :=
  OKx_still (fun w _ _ _ _ _ => run_int .rem t x y .i64 a b (by decide) w ut _ _ _ _ _ hx hy (by
    have hb' : (b : Int) ≠ 0 := by omega
    have e : Int.tmod (a : Int) (b : Int) = ((a % b : Nat) : Int) := by rw [Int.tmod_eq_emod_of_nonneg (by omega)]; simp
    have hlt : a % b ≤ a := Nat.mod_le _ _
    have hw : IntKind.i64.wrap ((a % b : Nat) : Int) = ((a % b : Nat) : Int) := wrapI _ ⟨by omega, by omega⟩
    have hb0 : ¬ b = 0 := by omega
    simp only [Op.intDiv]
    simp [hb0, e]
    first | done | exact hw | (rw [← Int.natCast_emod]; exact hw))) k
end
end Go.Proofs.YthnlnffmmioapaaDoor
