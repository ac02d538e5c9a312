/- A part of the claim EmbedChain: Sh. -/
import Derived.Shelf.Strings.Builder1
import Derived.Shelf.Strings.Builder2
import Derived.Shelf.Strings.OnBuilder
import Derived.Shelf.Small.Strs
import Derived.Shelf.Small.Wraps
import Derived.Shelf.Strings.Builder2Cap
import Derived.Shelf.Strconv.Itoa0
import Derived.Shelf.Strconv.Itoa1
import Derived.Shelf.LaysM
import Derived.Shelf.Strconv.Itoa2
import Derived.Shelf.Strconv.Itoa3
import Derived.Shelf.Strings.Search1
import Derived.Shelf.Strings.Search2
import Derived.Shelf.Strings.Search3
import Derived.Shelf.Strings.Cut
import Derived.Shelf.Strings.Count
import Derived.Shelf.Strings.Shaped
import Derived.Shelf.Strings.Prefix
import Derived.Shelf.Strings.Split
import Derived.Shelf.Strings.SplitShaped
import Derived.Shelf.Strings.RuneCount
import Derived.Shelf.Unicode.DecodeSlow
import Derived.Shelf.Slices.Equal
import Derived.Shelf.Slices.Empties2
import Derived.Test.YtgmacggbhcodjaaDoorProg
namespace Go.Proofs
open Go.Shelf
def Tryd.lays156_ren : Go.Shelf.Ren := ⟨fun | 156 => 78 | 165 => 94 | 166 => 95 | 169 => 96 | 240 => 109 | 241 => 110 | 276 => 120 | 277 => 121 | n => n, fun | 31 => 22 | 9 => 9 | 3 => 3 | 4 => 4 | 0 => 0 | 20 => 20 | 72 => 146 | 76 => 150 | 70 => 144 | 37 => 109 | 75 => 149 | 127 => 164 | 164 => 171 | 5 => 5 | 80 => 152 | n => n, fun | n => n⟩
theorem Tryd.lays156 : Go.Proofs.Lays.n156 Tryd.prog Tryd.lays156_ren := {
  mixed := by kernel_rfl
  f156 := Tryd.func78.trans (congrArg some (by kernel_rfl))
  f165 := Tryd.func94.trans (congrArg some (by kernel_rfl))
  f166 := Tryd.func95.trans (congrArg some (by kernel_rfl))
  f169 := Tryd.func96.trans (congrArg some (by kernel_rfl))
  f240 := Tryd.func109.trans (congrArg some (by kernel_rfl))
  f241 := Tryd.func110.trans (congrArg some (by kernel_rfl))
  f276 := Tryd.func120.trans (congrArg some (by kernel_rfl))
  f277 := Tryd.func121.trans (congrArg some (by kernel_rfl))
  t0 := Tryd.underlying0
  a0 := Tryd.isAgg0
  z0 := Tryd.sizeOf0
  v0 := Tryd.zeroValue0
  t3 := Tryd.underlying3
  a3 := Tryd.isAgg3
  z3 := Tryd.sizeOf3
  v3 := Tryd.zeroValue3
  t4 := Tryd.underlying4
  a4 := Tryd.isAgg4
  z4 := Tryd.sizeOf4
  v4 := Tryd.zeroValue4
  t9 := Tryd.underlying9
  a9 := Tryd.isAgg9
  z9 := Tryd.sizeOf9
  v9 := Tryd.zeroValue9
  t20 := Tryd.underlying20
  a20 := Tryd.isAgg20
  z20 := Tryd.sizeOf20
  v20 := Tryd.zeroValue20
  t31 := Tryd.underlying22
  a31 := Tryd.isAgg22
  z31 := Tryd.sizeOf22
  v31 := Tryd.zeroValue22
  t37 := Tryd.underlying109
  a37 := Tryd.isAgg109
  z37 := Tryd.sizeOf109
  v37 := Tryd.zeroValue109
  t70 := Tryd.underlying144
  a70 := Tryd.isAgg144
  z70 := Tryd.sizeOf144
  v70 := Tryd.zeroValue144
  t72 := Tryd.underlying146
  a72 := Tryd.isAgg146
  z72 := Tryd.sizeOf146
  v72 := Tryd.zeroValue146
  t75 := Tryd.underlying149
  a75 := Tryd.isAgg149
  z75 := Tryd.sizeOf149
  v75 := Tryd.zeroValue149
  t76 := Tryd.underlying150
  a76 := Tryd.isAgg150
  z76 := Tryd.sizeOf150
  v76 := Tryd.zeroValue150
  t127 := Tryd.underlying164
  a127 := Tryd.isAgg164
  z127 := Tryd.sizeOf164
  v127 := Tryd.zeroValue164
  t164 := Tryd.underlying171
  a164 := Tryd.isAgg171
  z164 := Tryd.sizeOf171
  v164 := Tryd.zeroValue171 }
theorem Tryd.Builder_Extra_156 : Builder.Extra Tryd.prog Tryd.lays156_ren := {
  sizeBuilder := by kernel_rfl
  liesBuilder := by kernel_rfl
  t5 := Tryd.underlying5
  a5 := Tryd.isAgg5
  z5 := Tryd.sizeOf5
  v5 := Tryd.zeroValue5
  infoByte := by kernel_rfl
  cellsByte := by kernel_rfl
  sizeByte := by kernel_rfl
  neB5 := by decide }
open Go.RowKit in
theorem Tryd.strings_Join_none (a : Option Addr) (c : Nat) (sep : ByteArray) (w : World) :
    Calls Tryd.prog 78 #[.slice a 0 c, .string sep] w fun e w' => e = .returned (.string ⟨#[]⟩) ∧ w' = w := Any.strings_Join_none Tryd.lays156 Tryd.Builder_Extra_156 a c sep w
open Go.RowKit in
theorem Tryd.strings_Join (bk o c : Nat) (xs : List ByteArray) (sep : ByteArray) (w : World) (hcells : ∀ (j : Nat) x, xs[j]? = some x → w.cell? ⟨bk, o + j, none⟩ = some (.string x)) (hbk : bk < w.heap.size) (hN : xs.length ≤ 140737488355328) (hcap : xs.length ≤ c) (hlen : (Lib.join (xs.map (·.data.toList)) sep.data.toList).length ≤ 140737488355328) :
    Calls Tryd.prog 78 #[.slice (some ⟨bk, o, none⟩) xs.length c, .string sep] w fun e w' => e = .returned (.string ⟨(Lib.join (xs.map (·.data.toList)) sep.data.toList).toArray⟩) ∧ Below w.heap.size w w' := Any.strings_Join Tryd.lays156 Tryd.Builder_Extra_156 bk o c xs sep w hcells hbk hN hcap hlen
def Tryd.lays137_ren : Go.Shelf.Ren := ⟨fun | 137 => 53 | 217 => 70 | 266 => 90 | n => n, fun | 9 => 9 | 5 => 5 | 3 => 3 | n => n, fun | n => n⟩
theorem Tryd.lays137 : Go.Proofs.Lays.n137 Tryd.prog Tryd.lays137_ren := {
  mixed := by kernel_rfl
  f137 := Tryd.func53.trans (congrArg some (by kernel_rfl))
  f217 := Tryd.func70.trans (congrArg some (by kernel_rfl))
  f266 := Tryd.func90.trans (congrArg some (by kernel_rfl))
  t3 := Tryd.underlying3
  a3 := Tryd.isAgg3
  z3 := Tryd.sizeOf3
  v3 := Tryd.zeroValue3
  t5 := Tryd.underlying5
  a5 := Tryd.isAgg5
  z5 := Tryd.sizeOf5
  v5 := Tryd.zeroValue5
  t9 := Tryd.underlying9
  a9 := Tryd.isAgg9
  z9 := Tryd.sizeOf9
  v9 := Tryd.zeroValue9 }
open Go.RowKit in
theorem Tryd.strings_IndexByte (s : ByteArray) (c : Int) (w : World) :
    Calls Tryd.prog 53 #[.string s, .int .u8 c] w fun e w' => e = .returned (.int .i64 (Lib.indexByte s.data.toList c.toNat.toUInt8)) ∧ w' = w := Any.strings_IndexByte Tryd.lays137 s c w
def Tryd.laysM246_ren : Go.Shelf.Ren := ⟨fun | 246 => 86 | 283 => 101 | 284 => 102 | 285 => 103 | 286 => 104 | 129 => 113 | 317 => 112 | 318 => 114 | 319 => 115 | 320 => 116 | 337 => 122 | 338 => 123 | n => n, fun | 2 => 2 | 3 => 3 | 9 => 9 | 4 => 4 | 171 => 155 | 0 => 0 | 53 => 156 | 37 => 109 | 5 => 5 | 173 => 159 | 212 => 166 | 51 => 24 | 20 => 20 | 213 => 167 | 46 => 131 | 232 => 175 | 233 => 176 | n => n, fun | 17 => 1 | 18 => 2 | 19 => 3 | n => n⟩
def Tryd.laysM243_ren : Go.Shelf.Ren := ⟨fun | 243 => 67 | 246 => 86 | 283 => 101 | 284 => 102 | 285 => 103 | 286 => 104 | 129 => 113 | 317 => 112 | 318 => 114 | 319 => 115 | 320 => 116 | 337 => 122 | 338 => 123 | n => n, fun | 3 => 3 | 9 => 9 | 2 => 2 | 4 => 4 | 171 => 155 | 0 => 0 | 53 => 156 | 37 => 109 | 5 => 5 | 173 => 159 | 212 => 166 | 51 => 24 | 20 => 20 | 213 => 167 | 46 => 131 | 232 => 175 | 233 => 176 | n => n, fun | 17 => 1 | 18 => 2 | 19 => 3 | n => n⟩
def Tryd.laysM171_ren : Go.Shelf.Ren := ⟨fun | 171 => 50 | 243 => 67 | 246 => 86 | 283 => 101 | 284 => 102 | 285 => 103 | 286 => 104 | 129 => 113 | 317 => 112 | 318 => 114 | 319 => 115 | 320 => 116 | 337 => 122 | 338 => 123 | n => n, fun | 3 => 3 | 9 => 9 | 2 => 2 | 4 => 4 | 171 => 155 | 0 => 0 | 53 => 156 | 37 => 109 | 5 => 5 | 173 => 159 | 212 => 166 | 51 => 24 | 20 => 20 | 213 => 167 | 46 => 131 | 232 => 175 | 233 => 176 | n => n, fun | 17 => 1 | 18 => 2 | 19 => 3 | n => n⟩
theorem Tryd.laysM171 : Go.Proofs.LaysM.n171 Tryd.prog Tryd.laysM171_ren := {
  mixed := by kernel_rfl
  f129 := Tryd.func113.trans (congrArg some (by kernel_rfl))
  f171 := Tryd.func50.trans (congrArg some (by kernel_rfl))
  f243 := Tryd.func67.trans (congrArg some (by kernel_rfl))
  f246 := Tryd.func86.trans (congrArg some (by kernel_rfl))
  f283 := Tryd.func101.trans (congrArg some (by kernel_rfl))
  f284 := Tryd.func102.trans (congrArg some (by kernel_rfl))
  f285 := Tryd.func103.trans (congrArg some (by kernel_rfl))
  f286 := Tryd.func104.trans (congrArg some (by kernel_rfl))
  f317 := Tryd.func112.trans (congrArg some (by kernel_rfl))
  f318 := Tryd.func114.trans (congrArg some (by kernel_rfl))
  f319 := Tryd.func115.trans (congrArg some (by kernel_rfl))
  f320 := Tryd.func116.trans (congrArg some (by kernel_rfl))
  f337 := Tryd.func122.trans (congrArg some (by kernel_rfl))
  f338 := Tryd.func123.trans (congrArg some (by kernel_rfl))
  t0 := Tryd.underlying0
  a0 := Tryd.isAgg0
  z0 := Tryd.sizeOf0
  v0 := Tryd.zeroValue0
  t2 := Tryd.underlying2
  a2 := Tryd.isAgg2
  z2 := Tryd.sizeOf2
  v2 := Tryd.zeroValue2
  t3 := Tryd.underlying3
  a3 := Tryd.isAgg3
  z3 := Tryd.sizeOf3
  v3 := Tryd.zeroValue3
  t4 := Tryd.underlying4
  a4 := Tryd.isAgg4
  z4 := Tryd.sizeOf4
  v4 := Tryd.zeroValue4
  t5 := Tryd.underlying5
  a5 := Tryd.isAgg5
  z5 := Tryd.sizeOf5
  v5 := Tryd.zeroValue5
  t9 := Tryd.underlying9
  a9 := Tryd.isAgg9
  z9 := Tryd.sizeOf9
  v9 := Tryd.zeroValue9
  t20 := Tryd.underlying20
  a20 := Tryd.isAgg20
  z20 := Tryd.sizeOf20
  v20 := Tryd.zeroValue20
  t37 := Tryd.underlying109
  a37 := Tryd.isAgg109
  z37 := Tryd.sizeOf109
  v37 := Tryd.zeroValue109
  t46 := Tryd.underlying131
  a46 := Tryd.isAgg131
  z46 := Tryd.sizeOf131
  v46 := Tryd.zeroValue131
  t51 := Tryd.underlying24
  a51 := Tryd.isAgg24
  z51 := Tryd.sizeOf24
  v51 := Tryd.zeroValue24
  t53 := Tryd.underlying156
  a53 := Tryd.isAgg156
  z53 := Tryd.sizeOf156
  v53 := Tryd.zeroValue156
  t171 := Tryd.underlying155
  a171 := Tryd.isAgg155
  z171 := Tryd.sizeOf155
  v171 := Tryd.zeroValue155
  t173 := Tryd.underlying159
  a173 := Tryd.isAgg159
  z173 := Tryd.sizeOf159
  v173 := Tryd.zeroValue159
  t212 := Tryd.underlying166
  a212 := Tryd.isAgg166
  z212 := Tryd.sizeOf166
  v212 := Tryd.zeroValue166
  t213 := Tryd.underlying167
  a213 := Tryd.isAgg167
  z213 := Tryd.sizeOf167
  t232 := Tryd.underlying175
  a232 := Tryd.isAgg175
  z232 := Tryd.sizeOf175
  v232 := Tryd.zeroValue175
  t233 := Tryd.underlying176
  a233 := Tryd.isAgg176
  z233 := Tryd.sizeOf176
  v233 := Tryd.zeroValue176
  g17 := by kernel_rfl
  g18 := by kernel_rfl
  g19 := by kernel_rfl
  i0 := by kernel_rfl
  i2 := by kernel_rfl
  i3 := by kernel_rfl
  i4 := by kernel_rfl
  i5 := by kernel_rfl
  i9 := by kernel_rfl
  i20 := by kernel_rfl
  i37 := by kernel_rfl
  i46 := by kernel_rfl
  i51 := by kernel_rfl
  i53 := by kernel_rfl
  i171 := by kernel_rfl
  i173 := by kernel_rfl
  i212 := by kernel_rfl
  i232 := by kernel_rfl
  i233 := by kernel_rfl
  m17 := by kernel_rfl
  m18 := by kernel_rfl
  m19 := by kernel_rfl }
open Go.RowKit Go.Sort Go.Lib in
theorem Tryd.strconv_Itoa (n : Int) (h0 : -9223372036854775808 ≤ n) (h1 : n ≤ 9223372036854775807) (w : World) (htab : Lib.TabIs Tryd.prog w "internal/strconv.uint64pow10" .u64 Lib.pow10Tab) :
    Calls Tryd.prog 50 #[.int .i64 n] w fun e w' => e = .returned (.string ⟨(Lib.itoa n).toArray⟩) ∧ ∃ k os, w' = grow (w.drewN k) os := Any.strconv_Itoa Tryd.laysM171 n h0 h1 w htab
def Tryd.lays219_ren : Go.Shelf.Ren := ⟨fun | 219 => 69 | 217 => 70 | 225 => 87 | 224 => 88 | 267 => 89 | 266 => 90 | 314 => 105 | n => n, fun | 9 => 9 | 3 => 3 | 4 => 4 | 5 => 5 | 46 => 131 | 146 => 161 | 51 => 24 | n => n, fun | 1 => 0 | n => n⟩
theorem Tryd.lays219 : Go.Proofs.Lays.n219 Tryd.prog Tryd.lays219_ren := {
  mixed := by kernel_rfl
  f217 := Tryd.func70.trans (congrArg some (by kernel_rfl))
  f219 := Tryd.func69.trans (congrArg some (by kernel_rfl))
  f224 := Tryd.func88.trans (congrArg some (by kernel_rfl))
  f225 := Tryd.func87.trans (congrArg some (by kernel_rfl))
  f266 := Tryd.func90.trans (congrArg some (by kernel_rfl))
  f267 := Tryd.func89.trans (congrArg some (by kernel_rfl))
  f314 := Tryd.func105.trans (congrArg some (by kernel_rfl))
  t3 := Tryd.underlying3
  a3 := Tryd.isAgg3
  z3 := Tryd.sizeOf3
  v3 := Tryd.zeroValue3
  t4 := Tryd.underlying4
  a4 := Tryd.isAgg4
  z4 := Tryd.sizeOf4
  v4 := Tryd.zeroValue4
  t5 := Tryd.underlying5
  a5 := Tryd.isAgg5
  z5 := Tryd.sizeOf5
  v5 := Tryd.zeroValue5
  t9 := Tryd.underlying9
  a9 := Tryd.isAgg9
  z9 := Tryd.sizeOf9
  v9 := Tryd.zeroValue9
  t46 := Tryd.underlying131
  a46 := Tryd.isAgg131
  z46 := Tryd.sizeOf131
  v46 := Tryd.zeroValue131
  t51 := Tryd.underlying24
  a51 := Tryd.isAgg24
  z51 := Tryd.sizeOf24
  v51 := Tryd.zeroValue24
  t146 := Tryd.underlying161
  a146 := Tryd.isAgg161
  z146 := Tryd.sizeOf161
  v146 := Tryd.zeroValue161
  g1 := by kernel_rfl }
open Go.RowKit Go.Lib in
theorem Tryd.stringslite_Index_one (s : ByteArray) (c : UInt8) (w : World) :
    Calls Tryd.prog 69 #[.string s, .string ⟨#[c]⟩] w fun e w' => e = .returned (.int .i64 (Lib.indexByte s.data.toList c)) ∧ w' = w := Any.stringslite_Index_one Tryd.lays219 s c w
def Tryd.lays221_ren : Go.Shelf.Ren := ⟨fun | 221 => 92 | 268 => 106 | 138 => 107 | 143 => 108 | 195 => 117 | 197 => 118 | 218 => 119 | 219 => 69 | 260 => 124 | 217 => 70 | 225 => 87 | 224 => 88 | 267 => 89 | 266 => 90 | 314 => 105 | n => n, fun | 9 => 9 | 3 => 3 | 31 => 22 | 4 => 4 | 0 => 0 | 105 => 169 | 21 => 21 | 5 => 5 | 46 => 131 | 119 => 177 | 139 => 180 | 138 => 179 | 146 => 161 | 51 => 24 | n => n, fun | 1 => 0 | 3 => 4 | 4 => 5 | n => n⟩
def Tryd.lays146_ren : Go.Shelf.Ren := ⟨fun | 146 => 76 | 221 => 92 | 268 => 106 | 138 => 107 | 143 => 108 | 195 => 117 | 197 => 118 | 218 => 119 | 219 => 69 | 260 => 124 | 217 => 70 | 225 => 87 | 224 => 88 | 267 => 89 | 266 => 90 | 314 => 105 | n => n, fun | 9 => 9 | 31 => 22 | 3 => 3 | 4 => 4 | 0 => 0 | 105 => 169 | 21 => 21 | 5 => 5 | 46 => 131 | 119 => 177 | 139 => 180 | 138 => 179 | 146 => 161 | 51 => 24 | n => n, fun | 1 => 0 | 3 => 4 | 4 => 5 | n => n⟩
theorem Tryd.lays146 : Go.Proofs.Lays.n146 Tryd.prog Tryd.lays146_ren := {
  mixed := by kernel_rfl
  f138 := Tryd.func107.trans (congrArg some (by kernel_rfl))
  f143 := Tryd.func108.trans (congrArg some (by kernel_rfl))
  f146 := Tryd.func76.trans (congrArg some (by kernel_rfl))
  f195 := Tryd.func117.trans (congrArg some (by kernel_rfl))
  f197 := Tryd.func118.trans (congrArg some (by kernel_rfl))
  f217 := Tryd.func70.trans (congrArg some (by kernel_rfl))
  f218 := Tryd.func119.trans (congrArg some (by kernel_rfl))
  f219 := Tryd.func69.trans (congrArg some (by kernel_rfl))
  f221 := Tryd.func92.trans (congrArg some (by kernel_rfl))
  f224 := Tryd.func88.trans (congrArg some (by kernel_rfl))
  f225 := Tryd.func87.trans (congrArg some (by kernel_rfl))
  f260 := Tryd.func124.trans (congrArg some (by kernel_rfl))
  f266 := Tryd.func90.trans (congrArg some (by kernel_rfl))
  f267 := Tryd.func89.trans (congrArg some (by kernel_rfl))
  f268 := Tryd.func106.trans (congrArg some (by kernel_rfl))
  f314 := Tryd.func105.trans (congrArg some (by kernel_rfl))
  t0 := Tryd.underlying0
  a0 := Tryd.isAgg0
  z0 := Tryd.sizeOf0
  v0 := Tryd.zeroValue0
  t3 := Tryd.underlying3
  a3 := Tryd.isAgg3
  z3 := Tryd.sizeOf3
  v3 := Tryd.zeroValue3
  t4 := Tryd.underlying4
  a4 := Tryd.isAgg4
  z4 := Tryd.sizeOf4
  v4 := Tryd.zeroValue4
  t5 := Tryd.underlying5
  a5 := Tryd.isAgg5
  z5 := Tryd.sizeOf5
  v5 := Tryd.zeroValue5
  t9 := Tryd.underlying9
  a9 := Tryd.isAgg9
  z9 := Tryd.sizeOf9
  v9 := Tryd.zeroValue9
  t21 := Tryd.underlying21
  a21 := Tryd.isAgg21
  z21 := Tryd.sizeOf21
  v21 := Tryd.zeroValue21
  t31 := Tryd.underlying22
  a31 := Tryd.isAgg22
  z31 := Tryd.sizeOf22
  v31 := Tryd.zeroValue22
  t46 := Tryd.underlying131
  a46 := Tryd.isAgg131
  z46 := Tryd.sizeOf131
  v46 := Tryd.zeroValue131
  t51 := Tryd.underlying24
  a51 := Tryd.isAgg24
  z51 := Tryd.sizeOf24
  v51 := Tryd.zeroValue24
  t105 := Tryd.underlying169
  a105 := Tryd.isAgg169
  z105 := Tryd.sizeOf169
  v105 := Tryd.zeroValue169
  t119 := Tryd.underlying177
  a119 := Tryd.isAgg177
  z119 := Tryd.sizeOf177
  t138 := Tryd.underlying179
  a138 := Tryd.isAgg179
  z138 := Tryd.sizeOf179
  v138 := Tryd.zeroValue179
  t139 := Tryd.underlying180
  a139 := Tryd.isAgg180
  z139 := Tryd.sizeOf180
  v139 := Tryd.zeroValue180
  t146 := Tryd.underlying161
  a146 := Tryd.isAgg161
  z146 := Tryd.sizeOf161
  v146 := Tryd.zeroValue161
  g1 := by kernel_rfl
  g3 := by kernel_rfl
  g4 := by kernel_rfl }
open Go.RowKit Go.Lib in
theorem Tryd.strings_Split (s sep : ByteArray) (m : Int) (w : World) (hs : s.size < 4294967281) (hm : w.cell? ⟨0, 0, none⟩ = some (.int .i64 m)) (h1 : 1 ≤ sep.size) :
    Calls Tryd.prog 76 #[.string s, .string sep] w fun e w' =>
      e = .returned (.slice (some ⟨w.heap.size, 0, none⟩) (Lib.countB s sep + 1) (Lib.countB s sep + 1)) ∧ w' = w.alloc (.cells ((Lib.splitB sep 0 (Lib.countB s sep) s).map Value.string).toArray 9) := Any.strings_Split Tryd.lays146 (by kernel_rfl) s sep m w hs hm h1
end Go.Proofs

