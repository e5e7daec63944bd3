/- Part 6: lemmas that the proofs of this seat share; by itself it claims nothing. -/
import Derived.Shelf.Strconv.Itoa3
import Derived.Shelf.Strconv.AtoiAll
import Derived.Shelf.Strings.FieldsAny
import Derived.Test.YtphelnpanihmiaaGreatDoorChecked
import Derived.Lib.AtoiTie
import Derived.Shelf.Small.Strs
import Derived.Shelf.Small.Wraps
import Derived.Shelf.Strings.Prefix
import Derived.Shelf.Strings.Split
import Derived.RangeFuncRecord
import Derived.Lib.SplitLaws
import Derived.Shelf.RegionOpenPlain
import Derived.Lib.Strings
import Derived.Lib.Slices
import Derived.Lib.Walk
import Derived.Lib.Builder
import Derived.Lib.AppendStr
import Derived.Lib.UnsafeStr
import Derived.WalkKit
import Derived.Laws.Externs
import Derived.Lib.AtoiAllCases
import Derived.Test.YtphelnpanihmiaaGreatDoorPt5
namespace Go.Proofs
open Go.Shelf
def Tryz.laysM171_ren : Go.Shelf.Ren := ⟨fun | 171 => 74 | 243 => 107 | 246 => 134 | 283 => 164 | 284 => 165 | 285 => 166 | 286 => 167 | 129 => 163 | 317 => 193 | 318 => 194 | 319 => 195 | 320 => 196 | 337 => 211 | 338 => 212 | n => n, fun | 3 => 3 | 9 => 9 | 2 => 2 | 4 => 4 | 171 => 233 | 0 => 0 | 53 => 203 | 37 => 93 | 5 => 5 | 173 => 235 | 212 => 261 | 51 => 158 | 20 => 20 | 213 => 262 | 46 => 188 | 232 => 275 | 233 => 276 | n => n, fun | 17 => 5 | 18 => 8 | 19 => 9 | n => n⟩
theorem Tryz.laysM171 : Go.Proofs.LaysM.n171 Tryz.prog Tryz.laysM171_ren := {
  mixed := by kernel_rfl
  f129 := Tryz.func163.trans (congrArg some (by kernel_rfl))
  f171 := Tryz.func74.trans (congrArg some (by kernel_rfl))
  f243 := Tryz.func107.trans (congrArg some (by kernel_rfl))
  f246 := Tryz.func134.trans (congrArg some (by kernel_rfl))
  f283 := Tryz.func164.trans (congrArg some (by kernel_rfl))
  f284 := Tryz.func165.trans (congrArg some (by kernel_rfl))
  f285 := Tryz.func166.trans (congrArg some (by kernel_rfl))
  f286 := Tryz.func167.trans (congrArg some (by kernel_rfl))
  f317 := Tryz.func193.trans (congrArg some (by kernel_rfl))
  f318 := Tryz.func194.trans (congrArg some (by kernel_rfl))
  f319 := Tryz.func195.trans (congrArg some (by kernel_rfl))
  f320 := Tryz.func196.trans (congrArg some (by kernel_rfl))
  f337 := Tryz.func211.trans (congrArg some (by kernel_rfl))
  f338 := Tryz.func212.trans (congrArg some (by kernel_rfl))
  t0 := Tryz.underlying0
  a0 := Tryz.isAgg0
  z0 := Tryz.sizeOf0
  v0 := Tryz.zeroValue0
  t2 := Tryz.underlying2
  a2 := Tryz.isAgg2
  z2 := Tryz.sizeOf2
  v2 := Tryz.zeroValue2
  t3 := Tryz.underlying3
  a3 := Tryz.isAgg3
  z3 := Tryz.sizeOf3
  v3 := Tryz.zeroValue3
  t4 := Tryz.underlying4
  a4 := Tryz.isAgg4
  z4 := Tryz.sizeOf4
  v4 := Tryz.zeroValue4
  t5 := Tryz.underlying5
  a5 := Tryz.isAgg5
  z5 := Tryz.sizeOf5
  v5 := Tryz.zeroValue5
  t9 := Tryz.underlying9
  a9 := Tryz.isAgg9
  z9 := Tryz.sizeOf9
  v9 := Tryz.zeroValue9
  t20 := Tryz.underlying20
  a20 := Tryz.isAgg20
  z20 := Tryz.sizeOf20
  v20 := Tryz.zeroValue20
  t37 := Tryz.underlying93
  a37 := Tryz.isAgg93
  z37 := Tryz.sizeOf93
  v37 := Tryz.zeroValue93
  t46 := Tryz.underlying188
  a46 := Tryz.isAgg188
  z46 := Tryz.sizeOf188
  v46 := Tryz.zeroValue188
  t51 := Tryz.underlying158
  a51 := Tryz.isAgg158
  z51 := Tryz.sizeOf158
  v51 := Tryz.zeroValue158
  t53 := Tryz.underlying203
  a53 := Tryz.isAgg203
  z53 := Tryz.sizeOf203
  v53 := Tryz.zeroValue203
  t171 := Tryz.underlying233
  a171 := Tryz.isAgg233
  z171 := Tryz.sizeOf233
  v171 := Tryz.zeroValue233
  t173 := Tryz.underlying235
  a173 := Tryz.isAgg235
  z173 := Tryz.sizeOf235
  v173 := Tryz.zeroValue235
  t212 := Tryz.underlying261
  a212 := Tryz.isAgg261
  z212 := Tryz.sizeOf261
  v212 := Tryz.zeroValue261
  t213 := Tryz.underlying262
  a213 := Tryz.isAgg262
  z213 := Tryz.sizeOf262
  t232 := Tryz.underlying275
  a232 := Tryz.isAgg275
  z232 := Tryz.sizeOf275
  v232 := Tryz.zeroValue275
  t233 := Tryz.underlying276
  a233 := Tryz.isAgg276
  z233 := Tryz.sizeOf276
  v233 := Tryz.zeroValue276
  g17 := by kernel_rfl
  g18 := by kernel_rfl
  g19 := by kernel_rfl
  i0 := by kernel_rfl
  i2 := by kernel_rfl
  i3 := by kernel_rfl
  i4 := by kernel_rfl
  i5 := by kernel_rfl
  i9 := by kernel_rfl
  i20 := by kernel_rfl
  i37 := by kernel_rfl
  i46 := by kernel_rfl
  i51 := by kernel_rfl
  i53 := by kernel_rfl
  i171 := by kernel_rfl
  i173 := by kernel_rfl
  i212 := by kernel_rfl
  i232 := by kernel_rfl
  i233 := by kernel_rfl
  m17 := by kernel_rfl
  m18 := by kernel_rfl
  m19 := by kernel_rfl }
open Go.RowKit Go.Sort Go.Lib in
/-- strconv.Itoa: "Itoa is equivalent to FormatInt(int64(i), 10).": i's DECIMAL NUMERAL ('Lib.itoa': a '-' where i is negative, then the digits), FOR EVERY int. The world behind the call: the world before it, new blocks behind the heap (the library's 'var a [24]byte'), draws. (LAID: no walk: one application.) -/
theorem Tryz.strconv_Itoa (n : Int) (h0 : -9223372036854775808 ≤ n) (h1 : n ≤ 9223372036854775807) (w : World) (htab : Lib.TabIs Tryz.prog w "internal/strconv.uint64pow10" .u64 Lib.pow10Tab) :
    Calls Tryz.prog 74 #[.int .i64 n] w fun e w' => e = .returned (.string ⟨(Lib.itoa n).toArray⟩) ∧ ∃ k os, w' = grow (w.drewN k) os := Any.strconv_Itoa Tryz.laysM171 n h0 h1 w htab
def Tryz.laysC172_ren : Go.Shelf.Ren := ⟨fun | 172 => 32 | 244 => 77 | 245 => 78 | 247 => 109 | 279 => 110 | 280 => 111 | 281 => 112 | 282 => 113 | 287 => 137 | 316 => 138 | 171 => 74 | 205 => 139 | 321 => 168 | 322 => 169 | 243 => 107 | 246 => 134 | 283 => 164 | 284 => 165 | 285 => 166 | 286 => 167 | 129 => 163 | 317 => 193 | 318 => 194 | 319 => 195 | 320 => 196 | 337 => 211 | 338 => 212 | n => n, fun | 9 => 9 | 3 => 3 | 75 => 71 | 76 => 72 | 4 => 4 | 5 => 5 | 167 => 161 | 37 => 93 | 0 => 0 | 85 => 162 | 2 => 2 | 168 => 164 | 53 => 203 | 175 => 204 | 46 => 188 | 210 => 208 | 127 => 138 | 145 => 242 | 143 => 240 | 21 => 21 | 171 => 233 | 173 => 235 | 212 => 261 | 51 => 158 | 20 => 20 | 213 => 262 | 232 => 275 | 233 => 276 | 80 => 99 | n => n, fun | 15 => 2 | 16 => 3 | 17 => 5 | 18 => 8 | 19 => 9 | n => n⟩
theorem Tryz.laysC172 : Go.Proofs.LaysC.n172 Tryz.prog Tryz.laysC172_ren := {
  mixed := by kernel_rfl
  f129 := Tryz.func163.trans (congrArg some (by kernel_rfl))
  f171 := Tryz.func74.trans (congrArg some (by kernel_rfl))
  f172 := Tryz.func32.trans (congrArg some (by kernel_rfl))
  f205 := Tryz.func139.trans (congrArg some (by kernel_rfl))
  f243 := Tryz.func107.trans (congrArg some (by kernel_rfl))
  f244 := Tryz.func77.trans (congrArg some (by kernel_rfl))
  f245 := Tryz.func78.trans (congrArg some (by kernel_rfl))
  f246 := Tryz.func134.trans (congrArg some (by kernel_rfl))
  f247 := Tryz.func109.trans (congrArg some (by kernel_rfl))
  f279 := Tryz.func110.trans (congrArg some (by kernel_rfl))
  f280 := Tryz.func111.trans (congrArg some (by kernel_rfl))
  f281 := Tryz.func112.trans (congrArg some (by kernel_rfl))
  f282 := Tryz.func113.trans (congrArg some (by kernel_rfl))
  f283 := Tryz.func164.trans (congrArg some (by kernel_rfl))
  f284 := Tryz.func165.trans (congrArg some (by kernel_rfl))
  f285 := Tryz.func166.trans (congrArg some (by kernel_rfl))
  f286 := Tryz.func167.trans (congrArg some (by kernel_rfl))
  f287 := Tryz.func137.trans (congrArg some (by kernel_rfl))
  f316 := Tryz.func138.trans (congrArg some (by kernel_rfl))
  f317 := Tryz.func193.trans (congrArg some (by kernel_rfl))
  f318 := Tryz.func194.trans (congrArg some (by kernel_rfl))
  f319 := Tryz.func195.trans (congrArg some (by kernel_rfl))
  f320 := Tryz.func196.trans (congrArg some (by kernel_rfl))
  f321 := Tryz.func168.trans (congrArg some (by kernel_rfl))
  f322 := Tryz.func169.trans (congrArg some (by kernel_rfl))
  f337 := Tryz.func211.trans (congrArg some (by kernel_rfl))
  f338 := Tryz.func212.trans (congrArg some (by kernel_rfl))
  t0 := Tryz.underlying0
  a0 := Tryz.isAgg0
  z0 := Tryz.sizeOf0
  v0 := Tryz.zeroValue0
  t2 := Tryz.underlying2
  a2 := Tryz.isAgg2
  z2 := Tryz.sizeOf2
  v2 := Tryz.zeroValue2
  t3 := Tryz.underlying3
  a3 := Tryz.isAgg3
  z3 := Tryz.sizeOf3
  v3 := Tryz.zeroValue3
  t4 := Tryz.underlying4
  a4 := Tryz.isAgg4
  z4 := Tryz.sizeOf4
  v4 := Tryz.zeroValue4
  t5 := Tryz.underlying5
  a5 := Tryz.isAgg5
  z5 := Tryz.sizeOf5
  v5 := Tryz.zeroValue5
  t9 := Tryz.underlying9
  a9 := Tryz.isAgg9
  z9 := Tryz.sizeOf9
  v9 := Tryz.zeroValue9
  t20 := Tryz.underlying20
  a20 := Tryz.isAgg20
  z20 := Tryz.sizeOf20
  v20 := Tryz.zeroValue20
  t21 := Tryz.underlying21
  a21 := Tryz.isAgg21
  z21 := Tryz.sizeOf21
  v21 := Tryz.zeroValue21
  t37 := Tryz.underlying93
  a37 := Tryz.isAgg93
  z37 := Tryz.sizeOf93
  v37 := Tryz.zeroValue93
  t46 := Tryz.underlying188
  a46 := Tryz.isAgg188
  z46 := Tryz.sizeOf188
  v46 := Tryz.zeroValue188
  t51 := Tryz.underlying158
  a51 := Tryz.isAgg158
  z51 := Tryz.sizeOf158
  v51 := Tryz.zeroValue158
  t53 := Tryz.underlying203
  a53 := Tryz.isAgg203
  z53 := Tryz.sizeOf203
  v53 := Tryz.zeroValue203
  t75 := Tryz.underlying71
  a75 := Tryz.isAgg71
  z75 := Tryz.sizeOf71
  v75 := Tryz.zeroValue71
  t76 := Tryz.underlying72
  a76 := Tryz.isAgg72
  z76 := Tryz.sizeOf72
  v76 := Tryz.zeroValue72
  t85 := Tryz.underlying162
  a85 := Tryz.isAgg162
  z85 := Tryz.sizeOf162
  v85 := Tryz.zeroValue162
  t127 := Tryz.underlying138
  a127 := Tryz.isAgg138
  z127 := Tryz.sizeOf138
  v127 := Tryz.zeroValue138
  t143 := Tryz.underlying240
  a143 := Tryz.isAgg240
  z143 := Tryz.sizeOf240
  v143 := Tryz.zeroValue240
  t145 := Tryz.underlying242
  a145 := Tryz.isAgg242
  z145 := Tryz.sizeOf242
  v145 := Tryz.zeroValue242
  t167 := Tryz.underlying161
  a167 := Tryz.isAgg161
  z167 := Tryz.sizeOf161
  v167 := Tryz.zeroValue161
  t168 := Tryz.underlying164
  a168 := Tryz.isAgg164
  z168 := Tryz.sizeOf164
  v168 := Tryz.zeroValue164
  t171 := Tryz.underlying233
  a171 := Tryz.isAgg233
  z171 := Tryz.sizeOf233
  v171 := Tryz.zeroValue233
  t173 := Tryz.underlying235
  a173 := Tryz.isAgg235
  z173 := Tryz.sizeOf235
  v173 := Tryz.zeroValue235
  t175 := Tryz.underlying204
  a175 := Tryz.isAgg204
  z175 := Tryz.sizeOf204
  v175 := Tryz.zeroValue204
  t210 := Tryz.underlying208
  a210 := Tryz.isAgg208
  z210 := Tryz.sizeOf208
  v210 := Tryz.zeroValue208
  t212 := Tryz.underlying261
  a212 := Tryz.isAgg261
  z212 := Tryz.sizeOf261
  v212 := Tryz.zeroValue261
  t213 := Tryz.underlying262
  a213 := Tryz.isAgg262
  z213 := Tryz.sizeOf262
  t232 := Tryz.underlying275
  a232 := Tryz.isAgg275
  z232 := Tryz.sizeOf275
  v232 := Tryz.zeroValue275
  t233 := Tryz.underlying276
  a233 := Tryz.isAgg276
  z233 := Tryz.sizeOf276
  v233 := Tryz.zeroValue276
  g15 := by kernel_rfl
  g16 := by kernel_rfl
  g17 := by kernel_rfl
  g18 := by kernel_rfl
  g19 := by kernel_rfl
  t80 := Tryz.underlying99
  a80 := Tryz.isAgg99
  z80 := Tryz.sizeOf99
  v80 := Tryz.zeroValue99
  i0 := by kernel_rfl
  i2 := by kernel_rfl
  i3 := by kernel_rfl
  i4 := by kernel_rfl
  i5 := by kernel_rfl
  i9 := by kernel_rfl
  i20 := by kernel_rfl
  i21 := by kernel_rfl
  i37 := by kernel_rfl
  i46 := by kernel_rfl
  i51 := by kernel_rfl
  i53 := by kernel_rfl
  i75 := by kernel_rfl
  i76 := by kernel_rfl
  i80 := by kernel_rfl
  i85 := by kernel_rfl
  i127 := by kernel_rfl
  i143 := by kernel_rfl
  i145 := by kernel_rfl
  i167 := by kernel_rfl
  i168 := by kernel_rfl
  i171 := by kernel_rfl
  i173 := by kernel_rfl
  i175 := by kernel_rfl
  i210 := by kernel_rfl
  i212 := by kernel_rfl
  i232 := by kernel_rfl
  i233 := by kernel_rfl
  m15 := by kernel_rfl
  m16 := by kernel_rfl
  m17 := by kernel_rfl
  m18 := by kernel_rfl
  m19 := by kernel_rfl
  c0 := by kernel_rfl
  c2 := by kernel_rfl
  c3 := by kernel_rfl
  c4 := by kernel_rfl
  c5 := by kernel_rfl
  c9 := by kernel_rfl
  c20 := by kernel_rfl
  c21 := by kernel_rfl
  c37 := by kernel_rfl
  c46 := by kernel_rfl
  c51 := by kernel_rfl
  c53 := by kernel_rfl
  c75 := by kernel_rfl
  c76 := by kernel_rfl
  c80 := by kernel_rfl
  c85 := by kernel_rfl
  c127 := by kernel_rfl
  c143 := by kernel_rfl
  c145 := by kernel_rfl
  c167 := by kernel_rfl
  c168 := by kernel_rfl
  c171 := by kernel_rfl
  c173 := by kernel_rfl
  c175 := by kernel_rfl
  c210 := by kernel_rfl
  c212 := by kernel_rfl
  c213 := by kernel_rfl
  c232 := by kernel_rfl
  c233 := by kernel_rfl }
/-- Neither a number nor out of range. -/
def notNum : Lib.NumEnd Int → Bool
  | .ok _ => false
  | .range => false
  | _ => true
open Go.RowKit in
/-- strconv.Atoi, AT EVERY STRING THAT SPELLS AN int ('Lib.atoiAll .. = .ok v'; of whatever length: leading zeros count): v, AND NO ERROR. The world: as it was, or with the one new row that '[]byte(..)' lays. (LAID: no walk: one application.) -/
theorem Tryz.strconv_Atoi_ok (s : ByteArray) (hmax : s.size ≤ 9223372036854775806) (v : Int) (h : Lib.atoiAll s.data.toList = .ok v) (w : World) :
    Calls Tryz.prog 32 #[.string s] w fun e w' => e = .returned (.tuple #[.int .i64 v, .nilIface]) ∧ (w' = w ∨ ∃ t, w' = Lib.bytesWorld w 5 t) := Any.strconv_Atoi_ok Tryz.laysC172 s hmax v h w
open Go.RowKit in
/-- strconv.Atoi, AT EVERY STRING THAT IS NO DECIMAL NUMERAL (no numeral): 0, AND AN ERROR THAT IS NOT nil: a *NumError in a new block N: {Func: "Atoi", Num: s's bytes, Err: what the variable ErrSyntax holds}. Of what was there nothing has turned. (LAID: no walk: one application.) -/
theorem Tryz.strconv_Atoi_bad (s : ByteArray) (hlim : s.size ≤ 281474976710656) (h : notNum (Lib.atoiAll s.data.toList) = true) (ev : Value) (w : World) (hv : w.cell? ⟨2, 0, none⟩ = some ev) (hev : ev = .nilIface ∨ ∃ te pe, ev = .iface te pe) :
    Calls Tryz.prog 32 #[.string s] w fun e w' => ∃ N, e = .returned (.tuple #[.int .i64 (0), .iface 164 (.pointer (some ⟨N, 0, none⟩))]) ∧ w.heap.size ≤ N ∧ w'.heap[N]? = some (.cells #[.string ⟨#[65, 116, 111, 105]⟩, .string s, ev] 208 (0, 0)) ∧ Below w.heap.size w w' := Any.strconv_Atoi_syntax Tryz.laysC172 s hlim (by revert h; cases Lib.atoiAll s.data.toList <;> intro h <;> first | rfl | cases h) ev w hv hev
open Go.RowKit in
/-- strconv.Atoi, AT EVERY NUMERAL THAT NO int HOLDS ('.range'): THE GREATEST OR THE LEAST int, BY THE SIGN ('Lib.atoiSat'), AND AN ERROR THAT IS NOT nil: a *NumError in a new block N: {Func: "Atoi", Num: s's bytes, Err: what the variable ErrRange holds}. Of what was there nothing has turned. (LAID: no walk: one application.) -/
theorem Tryz.strconv_Atoi_range (s : ByteArray) (hlim : s.size ≤ 281474976710656) (h : Lib.atoiAll s.data.toList = .range) (ev : Value) (w : World) (hv : w.cell? ⟨3, 0, none⟩ = some ev) (hev : ev = .nilIface ∨ ∃ te pe, ev = .iface te pe) :
    Calls Tryz.prog 32 #[.string s] w fun e w' => ∃ N, e = .returned (.tuple #[.int .i64 (Lib.atoiSat s.data.toList), .iface 164 (.pointer (some ⟨N, 0, none⟩))]) ∧ w.heap.size ≤ N ∧ w'.heap[N]? = some (.cells #[.string ⟨#[65, 116, 111, 105]⟩, .string s, ev] 208 (0, 0)) ∧ Below w.heap.size w w' := Any.strconv_Atoi_range Tryz.laysC172 s hlim h ev w hv hev
def Tryz.lays157_ren : Go.Shelf.Ren := ⟨fun | 157 => 31 | 229 => 75 | 199 => 76 | 261 => 108 | 311 => 135 | 312 => 136 | n => n, fun | 9 => 9 | 31 => 68 | 3 => 3 | 5 => 5 | 4 => 4 | 119 => 129 | 0 => 0 | 40 => 131 | 152 => 155 | 21 => 21 | 154 => 157 | 51 => 158 | 141 => 160 | 196 => 195 | 193 => 192 | 198 => 198 | 49 => 196 | 194 => 193 | 201 => 201 | 226 => 237 | 46 => 188 | 227 => 238 | n => n, fun | 0 => 0 | 6 => 1 | n => n⟩
theorem Tryz.lays157 : Go.Proofs.Lays.n157 Tryz.prog Tryz.lays157_ren := {
  mixed := by kernel_rfl
  f157 := Tryz.func31.trans (congrArg some (by kernel_rfl))
  f199 := Tryz.func76.trans (congrArg some (by kernel_rfl))
  f229 := Tryz.func75.trans (congrArg some (by kernel_rfl))
  f261 := Tryz.func108.trans (congrArg some (by kernel_rfl))
  f311 := Tryz.func135.trans (congrArg some (by kernel_rfl))
  f312 := Tryz.func136.trans (congrArg some (by kernel_rfl))
  t0 := Tryz.underlying0
  a0 := Tryz.isAgg0
  z0 := Tryz.sizeOf0
  v0 := Tryz.zeroValue0
  t3 := Tryz.underlying3
  a3 := Tryz.isAgg3
  z3 := Tryz.sizeOf3
  v3 := Tryz.zeroValue3
  t4 := Tryz.underlying4
  a4 := Tryz.isAgg4
  z4 := Tryz.sizeOf4
  v4 := Tryz.zeroValue4
  t5 := Tryz.underlying5
  a5 := Tryz.isAgg5
  z5 := Tryz.sizeOf5
  v5 := Tryz.zeroValue5
  t9 := Tryz.underlying9
  a9 := Tryz.isAgg9
  z9 := Tryz.sizeOf9
  v9 := Tryz.zeroValue9
  t21 := Tryz.underlying21
  a21 := Tryz.isAgg21
  z21 := Tryz.sizeOf21
  v21 := Tryz.zeroValue21
  t31 := Tryz.underlying68
  a31 := Tryz.isAgg68
  z31 := Tryz.sizeOf68
  v31 := Tryz.zeroValue68
  t40 := Tryz.underlying131
  a40 := Tryz.isAgg131
  z40 := Tryz.sizeOf131
  v40 := Tryz.zeroValue131
  t46 := Tryz.underlying188
  a46 := Tryz.isAgg188
  z46 := Tryz.sizeOf188
  v46 := Tryz.zeroValue188
  t49 := Tryz.underlying196
  a49 := Tryz.isAgg196
  z49 := Tryz.sizeOf196
  v49 := Tryz.zeroValue196
  t51 := Tryz.underlying158
  a51 := Tryz.isAgg158
  z51 := Tryz.sizeOf158
  v51 := Tryz.zeroValue158
  t119 := Tryz.underlying129
  a119 := Tryz.isAgg129
  z119 := Tryz.sizeOf129
  t141 := Tryz.underlying160
  a141 := Tryz.isAgg160
  z141 := Tryz.sizeOf160
  v141 := Tryz.zeroValue160
  t152 := Tryz.underlying155
  a152 := Tryz.isAgg155
  z152 := Tryz.sizeOf155
  v152 := Tryz.zeroValue155
  t154 := Tryz.underlying157
  a154 := Tryz.isAgg157
  z154 := Tryz.sizeOf157
  v154 := Tryz.zeroValue157
  t193 := Tryz.underlying192
  a193 := Tryz.isAgg192
  z193 := Tryz.sizeOf192
  v193 := Tryz.zeroValue192
  t194 := Tryz.underlying193
  a194 := Tryz.isAgg193
  z194 := Tryz.sizeOf193
  v194 := Tryz.zeroValue193
  t196 := Tryz.underlying195
  a196 := Tryz.isAgg195
  z196 := Tryz.sizeOf195
  v196 := Tryz.zeroValue195
  t198 := Tryz.underlying198
  a198 := Tryz.isAgg198
  z198 := Tryz.sizeOf198
  v198 := Tryz.zeroValue198
  t201 := Tryz.underlying201
  a201 := Tryz.isAgg201
  z201 := Tryz.sizeOf201
  v201 := Tryz.zeroValue201
  t226 := Tryz.underlying237
  a226 := Tryz.isAgg237
  z226 := Tryz.sizeOf237
  v226 := Tryz.zeroValue237
  t227 := Tryz.underlying238
  a227 := Tryz.isAgg238
  z227 := Tryz.sizeOf238
  v227 := Tryz.zeroValue238
  g0 := by kernel_rfl
  g6 := by kernel_rfl }
open Go.RowKit Go.Lib in
/-- **strings.Fields AT EVERY STRING, VALID UTF-8 OR NOT.** (LAID: no walk: one application.) -/
theorem Tryz.strings_Fields_any (s : ByteArray) (w : World) (hs : s.size < 4294967281) (htab : Lib.TabIs Tryz.prog w "strings.asciiSpace" .u8 Lib.asciiSpaceTab) (hW : Lib.WhiteTab 1 w) :
    Calls Tryz.prog 31 #[.string s] w fun e w' => ∃ A, e = .returned (.slice (some ⟨A, 0, none⟩) (Lib.fieldsD s.data.toList).length (Lib.fieldsD s.data.toList).length) ∧ w.heap.size ≤ A ∧
      w'.ownsRow w.heap.size 9 1 (.slice (some ⟨A, 0, none⟩) (Lib.fieldsD s.data.toList).length (Lib.fieldsD s.data.toList).length) (Lib.fieldsD s.data.toList).length ((Lib.fieldsD s.data.toList).map fun x => Value.string ⟨x.toArray⟩) ∧ Below w.heap.size w w' := Any.strings_Fields_any Tryz.lays157 (by kernel_rfl) (by kernel_rfl) (by kernel_rfl) s w hs htab hW
end Go.Proofs

/- strconv.Itoa, strconv.Atoi, strings.Fields as contracts. -/
namespace Go.Ch
open Go Go.Ax Go.Proofs Go.Proofs.Tryz Go.RowKit
set_option maxRecDepth 100000

theorem memOK_below {M : Mem} {w w' : World} (h : MemOK M w) (hb : Below w.heap.size w w') : MemOK M w' := by
  intro b o u e
  have hc := h b o u e
  have hlt : b < w.heap.size := by
    rcases Nat.lt_or_ge b w.heap.size with h' | h'
    · exact h'
    · simp [World.cell?, Array.getElem?_eq_none h'] at hc
  have : w'.heap[b]? = w.heap[b]? := hb.block b hlt
  simp only [World.cell?, this] at hc ⊢
  exact hc
/-- Stable memory with all that is new. -/
def memNew (M : Mem) (w w' : World) : Mem := fun b o => if w.heap.size ≤ b then w'.cell? ⟨b, o, none⟩ else M b o
theorem memNew_grow {M : Mem} {w w' : World} (h : MemOK M w) : Grow w.heap.size M (memNew M w w') := by
  refine ⟨fun b o u e => ?_, fun b o u e => ?_⟩
  · have hc := h b o u e
    have hlt : ¬ w.heap.size ≤ b := fun h' => by simp [World.cell?, Array.getElem?_eq_none h'] at hc
    simp only [memNew, if_neg hlt]; exact e
  · simp only [memNew] at e
    split at e
    · rename_i h'; exact .inr h'
    · exact .inl e
theorem memNew_ok {M : Mem} {w w' : World} (h : MemOK M w) (hb : Below w.heap.size w w') : MemOK (memNew M w w') w' := by
  intro b o u e
  simp only [memNew] at e
  split at e
  · exact e
  · exact memOK_below h hb b o u e

theorem tab_cells {x : TabX} {w : World} (h : GlobB x w) {g : Nat} {t : Array Value} (m : (g, t) ∈ tabsL x) (o : Nat) : w.cell? ⟨g, o, none⟩ = t[o]? := by
  obtain ⟨e, fr, c⟩ := h g t m
  simp [World.cell?, c]
theorem tab_is {x : TabX} {w : World} (h : GlobB x w) {g : Nat} {name : String} {k : IntKind} {zs : List Int} (hn : Tryz.prog.globalNamed name = some g) (m : (g, (zs.map fun z => Value.int k z).toArray) ∈ tabsL x) : Lib.TabIs Tryz.prog w name k zs := by
  obtain ⟨e, fr, c⟩ := h g _ m
  simp [Lib.TabIs, World.var?, hn, c]

theorem Itoa (n : Int) (h0 : -9223372036854775808 ≤ n) (h1 : n ≤ 9223372036854775807) : CallP Tryz.prog 74 [vI n] (vT (Lib.itoa n)) := by
  refine ⟨Tryz.call74, fun M w vs hg hr hM => ?_⟩
  match vs, hr with
  | [v], ⟨h, _⟩ =>
    obtain rfl : v = .int .i64 n := h
    obtain ⟨x, hx⟩ := hg
    refine (Tryz.strconv_Itoa n h0 h1 w (tab_is hx (g := 5) (by kernel_rfl) (by simp [tabsL, pow10A]))).mono ?_
    rintro e w' ⟨rfl, k, os, rfl⟩
    have hb : Below w.heap.size w (Sort.grow (w.drewN k) os) := ⟨rfl, rfl, rfl, by show w.heap.size ≤ (w.heap ++ os).size; rw [Array.size_append]; omega, fun _ hj => Sort.heap_grow_old (w.drewN k) os hj⟩
    exact ⟨_, M, rfl, rfl, Grow.refl _ _, memOK_below hM hb, hb⟩

def atN (l : List UInt8) : Int := match Lib.atoiAll l with | .ok v => v | .range => Lib.atoiSat l | _ => 0
def atE (l : List UInt8) : Bool := match Lib.atoiAll l with | .ok _ => false | _ => true
theorem Atoi (l : List UInt8) (hl : l.length ≤ 281474976710656) : CallP Tryz.prog 32 [vT l] (.t [.s (.d (.val (.int .i64 (atN l)))), .s (.d (.err (atE l)))]) := by
  refine ⟨Tryz.call32, fun M w vs hg hr hM => ?_⟩
  match vs, hr with
  | [v], ⟨h, _⟩ =>
    obtain rfl : v = .string (bs l) := h
    obtain ⟨x, hx⟩ := hg
    have hs : (bs l).size ≤ 281474976710656 := by rw [bs_size]; exact hl
    cases ha : Lib.atoiAll l with
    | ok n =>
      refine (Tryz.strconv_Atoi_ok (bs l) (by omega) n ha w).mono ?_
      rintro e w' ⟨rfl, hw⟩
      have hb : Below w.heap.size w w' := by
        rcases hw with rfl | ⟨t, rfl⟩
        · exact Below.refl _ _
        · exact Lib.bytesWorld_below _ _ _
      refine ⟨_, M, rfl, ?_, Grow.refl _ _, memOK_below hM hb, hb⟩
      simp only [atN, atE, ha]
      exact ⟨[_, _], rfl, rfl, .inl ⟨rfl, rfl⟩, trivial⟩
    | range =>
      refine (Tryz.strconv_Atoi_range (bs l) hs ha (.iface x.t3 x.p3) w (by rw [tab_cells hx (t := #[.iface x.t3 x.p3]) (by simp [tabsL])]; rfl) (.inr ⟨_, _, rfl⟩)).mono ?_
      rintro e w' ⟨N, rfl, _, _, hb⟩
      refine ⟨_, M, rfl, ?_, Grow.refl _ _, memOK_below hM hb, hb⟩
      simp only [atN, atE, ha]
      exact ⟨[_, _], rfl, rfl, .inr ⟨rfl, _, _, rfl⟩, trivial⟩
    | _ =>
      refine (Tryz.strconv_Atoi_bad (bs l) hs (by show notNum (Lib.atoiAll l) = true; rw [ha]; rfl) (.iface x.t2 x.p2) w (by rw [tab_cells hx (t := #[.iface x.t2 x.p2]) (by simp [tabsL])]; rfl) (.inr ⟨_, _, rfl⟩)).mono ?_
      rintro e w' ⟨N, rfl, _, _, hb⟩
      refine ⟨_, M, rfl, ?_, Grow.refl _ _, memOK_below hM hb, hb⟩
      simp only [atN, atE, ha]
      exact ⟨[_, _], rfl, rfl, .inr ⟨rfl, _, _, rfl⟩, trivial⟩

def dTs (ls : List (List UInt8)) : DV := .slc ls.length 1 fun i _ => dT (ls.getD i [])
end Go.Ch

/- Numerals read back: digits, atoi. -/
namespace Go.Ch
open Go Go.Ax Go.Proofs Go.Proofs.Tryz
open Go.Lib (decDigits itoa decFrom digitVal nDigits)
set_option maxRecDepth 100000

theorem chr10_nat {d : Nat} (h : d < 10) : (chr10 d).toNat = 48 + d := by
  have : ∀ k : Fin 10, (chr10 k.val).toNat = 48 + k.val := by decide +kernel
  exact this ⟨d, h⟩
theorem dec_digit : ∀ (n u : Nat), u ≤ n → ∀ b ∈ decDigits u, 48 ≤ b.toNat ∧ b.toNat ≤ 57
  | n, u, h, b, hb => by
    by_cases hu : u < 10
    · rw [dec_one hu] at hb
      simp only [List.mem_cons, List.not_mem_nil, or_false] at hb
      subst hb
      rw [chr10_nat hu]; omega
    · rw [dec_step hu] at hb
      simp only [List.mem_append, List.mem_cons, List.not_mem_nil, or_false] at hb
      rcases hb with hb | hb
      · match n with
        | 0 => omega
        | n + 1 => exact dec_digit n (u / 10) (by omega) b hb
      · subst hb
        rw [chr10_nat (by omega)]; omega
theorem decFrom_snoc : ∀ (l : List UInt8) (acc n : Nat) (b : UInt8) (d : Nat), decFrom acc l = some n → digitVal b = some d → decFrom acc (l ++ [b]) = some (n * 10 + d)
  | [], acc, n, b, d, h, hb => by
    simp only [decFrom, Option.some.injEq] at h
    subst h
    simp [decFrom, hb]
  | a :: t, acc, n, b, d, h, hb => by
    simp only [decFrom, List.cons_append] at h ⊢
    cases ha : digitVal a with
    | none => rw [ha] at h; cases h
    | some e =>
      rw [ha] at h
      exact decFrom_snoc t _ n b d h hb
theorem digitVal_chr {d : Nat} (h : d < 10) : digitVal (chr10 d) = some d := by
  unfold digitVal
  rw [chr10_nat h, if_pos (by omega)]
  congr 1; omega
theorem dec_val : ∀ (n u : Nat), u ≤ n → decFrom 0 (decDigits u) = some u
  | n, u, h => by
    by_cases hu : u < 10
    · rw [dec_one hu]
      simp [decFrom, digitVal_chr hu]
    · rw [dec_step hu]
      match n with
      | 0 => omega
      | n + 1 =>
        rw [decFrom_snoc _ _ _ _ _ (dec_val n (u / 10) (by omega)) (digitVal_chr (by omega))]
        congr 1; omega
theorem itoa_cases (n : Int) : (n < 0 ∧ itoa n = 45 :: decDigits n.natAbs) ∨ (0 ≤ n ∧ itoa n = decDigits n.natAbs) := by
  unfold itoa
  by_cases h : n < 0
  · left; exact ⟨h, by rw [if_pos h]⟩
  · right; exact ⟨by omega, by rw [if_neg h, show n.toNat = n.natAbs by omega]⟩
theorem itoa_ne (n : Int) : itoa n ≠ [] := by
  rcases itoa_cases n with ⟨_, e⟩ | ⟨_, e⟩ <;> rw [e]
  · simp
  · exact dec_ne _
theorem itoa_byte (n : Int) : ∀ b ∈ itoa n, b.toNat = 45 ∨ (48 ≤ b.toNat ∧ b.toNat ≤ 57) := by
  intro b hb
  rcases itoa_cases n with ⟨_, e⟩ | ⟨_, e⟩ <;> rw [e] at hb
  · rcases List.mem_cons.1 hb with rfl | hb
    · exact .inl rfl
    · exact .inr (dec_digit _ _ (Nat.le_refl _) b hb)
  · exact .inr (dec_digit _ _ (Nat.le_refl _) b hb)
theorem itoa_len8 {n : Int} (h : n.natAbs < 100000000) : (itoa n).length ≤ 9 := by
  have hd : nDigits n.natAbs ≤ 8 := by
    rcases Nat.lt_or_ge 8 (nDigits n.natAbs) with h9 | h9
    · exfalso
      have h1 : ∀ k u, k < nDigits u → u ≠ 0 → 10 ^ k ≤ u := by
        intro k
        induction k with
        | zero => intro u _ h0; simp; omega
        | succ k ih =>
          intro u hk h0
          by_cases hu : u < 10
          · rw [Go.Lib.nDigits_small hu] at hk; omega
          · rw [Go.Lib.nDigits_big hu] at hk
            have := ih (u / 10) (by omega) (by omega)
            rw [Nat.pow_succ]; omega
      have h0 : n.natAbs ≠ 0 := by
        intro e; rw [e, Go.Lib.nDigits_small (by decide)] at h9; omega
      have := h1 8 n.natAbs h9 h0
      omega
    · exact h9
  rcases itoa_cases n with ⟨_, e⟩ | ⟨_, e⟩ <;> rw [e]
  · rw [List.length_cons, Go.Lib.decDigits_length]; omega
  · rw [Go.Lib.decDigits_length]; omega
theorem atoi_itoa {n : Int} (h : n.natAbs < 100000000) : Lib.atoiAll (itoa n) = .ok n := by
  rw [Lib.atoiAll_short _ (by have := itoa_len8 h; omega)]
  have hv := dec_val _ _ (Nat.le_refl n.natAbs)
  have hn : Lib.decNat (decDigits n.natAbs) = some n.natAbs := by
    unfold Lib.decNat
    rw [hv]
    cases hq : decDigits n.natAbs with
    | nil => exact absurd hq (dec_ne _)
    | cons _ _ => rfl
  have ho : Lib.atoi (itoa n) = some n := by
    rcases itoa_cases n with ⟨h0, e⟩ | ⟨h0, e⟩ <;> rw [e]
    · unfold Lib.atoi
      simp only [beq_self_eq_true, if_true, hn, Option.map]
      congr 1; omega
    · cases hq : decDigits n.natAbs with
      | nil => exact absurd hq (dec_ne _)
      | cons b r =>
        have hb := dec_digit _ _ (Nat.le_refl n.natAbs) b (by rw [hq]; exact List.mem_cons_self)
        unfold Lib.atoi
        have h1 : (b == 45) = false := by
          rw [beq_eq_false_iff_ne]; rintro rfl; simp at hb
        have h2 : (b == 43) = false := by
          rw [beq_eq_false_iff_ne]; rintro rfl; simp at hb
        simp only [h1, h2, Bool.false_eq_true, if_false]
        rw [← hq, hn]
        simp only [Option.map]
        congr 1; omega
  rw [ho]; rfl
theorem atN_itoa {n : Int} (h : n.natAbs < 100000000) : atN (itoa n) = n := by
  unfold atN; rw [atoi_itoa h]
theorem atE_itoa {n : Int} (h : n.natAbs < 100000000) : atE (itoa n) = false := by
  unfold atE; rw [atoi_itoa h]

/-- The reference's number: state behind i bytes; none: refused. -/
def numF (w : List UInt8) : Nat → Option (Int × Bool)
  | 0 => some (0, false)
  | i + 1 => match numF w i with
    | none => none
    | some (n, neg) =>
      bif i == 0 && w.getD i 0 == 45 then some (n, true)
      else bif decide ((w.getD i 0).toNat < 48) || decide ((w.getD i 0).toNat > 57) then none
      else some (10 * n + (((w.getD i 0).toNat : Int) - 48), neg)
def numV (w : List UInt8) : Int × Bool :=
  bif decide (w.length > 9) then (0, false)
  else match numF w w.length with
    | none => (0, false)
    | some (n, neg) => let m := bif neg then -n else n; (m, itoa m == w)
theorem numF_bound (w : List UInt8) : ∀ (i : Nat) (n : Int) (neg : Bool), numF w i = some (n, neg) → 0 ≤ n ∧ n < 10 ^ i
  | 0, n, neg, h => by
    simp only [numF, Option.some.injEq, Prod.mk.injEq] at h
    obtain ⟨rfl, rfl⟩ := h
    decide
  | i + 1, n, neg, h => by
    simp only [numF] at h
    cases hp : numF w i with
    | none => rw [hp] at h; cases h
    | some p =>
      obtain ⟨m, ng⟩ := p
      rw [hp] at h
      have hb := numF_bound w i m ng hp
      have hpow : (10 : Int) ^ (i + 1) = 10 ^ i * 10 := Int.pow_succ 10 i
      simp only at h
      cases h1 : (i == 0 && w.getD i 0 == 45) with
      | true =>
        rw [h1] at h
        simp only [cond_true, Option.some.injEq, Prod.mk.injEq] at h
        omega
      | false =>
        rw [h1] at h
        cases h2 : (decide ((w.getD i 0).toNat < 48) || decide ((w.getD i 0).toNat > 57)) with
        | true => rw [h2] at h; cases h
        | false =>
          rw [h2] at h
          simp only [cond_false, Option.some.injEq, Prod.mk.injEq] at h
          simp only [Bool.or_eq_false_iff, decide_eq_false_iff_not] at h2
          omega
theorem numV_bound (w : List UInt8) : (numV w).1.natAbs < 1000000000 := by
  unfold numV
  cases h : decide (w.length > 9) with
  | true => simp
  | false =>
    simp only [decide_eq_false_iff_not] at h
    simp only [cond_false]
    cases hp : numF w w.length with
    | none => simp
    | some p =>
      obtain ⟨n, neg⟩ := p
      have hb := numF_bound w _ n neg hp
      have : (10 : Int) ^ w.length ≤ 10 ^ 9 := by
        have := Nat.pow_le_pow_right (n := 10) (by decide) (show w.length ≤ 9 by omega)
        exact_mod_cast this
      have e9 : (10 : Int) ^ 9 = 1000000000 := by decide
      cases neg <;> simp <;> omega
theorem numF_dec (neg : Bool) : ∀ (p l : List UInt8) (k : Nat) (_acc n : Nat), (p.length = 0 ∨ (p = [45])) → (neg = true ↔ p = [45]) → decFrom 0 (l.take k) = some n → k ≤ l.length → (∀ b ∈ l, 48 ≤ b.toNat ∧ b.toNat ≤ 57) → numF (p ++ l) (p.length + k) = some ((n : Int), neg) := by
  intro p l k acc
  induction k with
  | zero =>
    intro n hp hn h _ _
    simp only [List.take_zero, decFrom, Option.some.injEq] at h
    subst h
    rcases hp with hp | rfl
    · have : p = [] := List.length_eq_zero_iff.1 hp
      subst this
      cases neg with
      | true => exact absurd (hn.1 rfl) (by simp)
      | false => rfl
    · cases neg with
      | false => exact absurd (hn.2 rfl) (by simp)
      | true => simp [numF]
  | succ k ih =>
    intro n hp hn h hk hl
    obtain ⟨m, hm⟩ := Lib.decFrom_prefix _ _ _ h k
    rw [List.take_take, Nat.min_eq_left (Nat.le_succ k)] at hm
    have e := ih m hp hn hm (by omega) hl
    have hkl : k < l.length := by omega
    have hb := hl l[k] (List.getElem_mem hkl)
    have hdv : digitVal l[k] = some ((l[k]).toNat - 48) := by unfold digitVal; rw [if_pos hb]
    have h2 := Lib.decFrom_take l k 0 m l[k] _ hm (List.getElem?_eq_getElem hkl) hdv
    rw [h] at h2
    have h2 := Option.some.inj h2
    rw [← Nat.add_assoc]
    simp only [numF]
    rw [e]
    have eg : (p ++ l).getD (p.length + k) 0 = l[k] := by
      rw [List.getD_eq_getElem?_getD, List.getElem?_append_right (by omega), Nat.add_sub_cancel_left, List.getElem?_eq_getElem hkl]; rfl
    simp only [eg]
    have h45 : (l[k] == 45) = false := by
      rw [beq_eq_false_iff_ne]; intro e; rw [e] at hb; simp at hb
    rw [h45, Bool.and_false]
    have hc : (decide ((l[k]).toNat < 48) || decide ((l[k]).toNat > 57)) = false := by simp; omega
    rw [hc]
    simp only [cond_false]
    congr 2
    omega
theorem numV_itoa {n : Int} (h : n.natAbs < 100000000) : numV (itoa n) = (n, true) := by
  unfold numV
  have hl := itoa_len8 h
  rw [show decide ((itoa n).length > 9) = false by simp; omega]
  simp only [cond_false]
  have hv := dec_val _ _ (Nat.le_refl n.natAbs)
  have hd := dec_digit _ _ (Nat.le_refl n.natAbs)
  rcases itoa_cases n with ⟨h0, e⟩ | ⟨h0, e⟩
  · have := numF_dec true [45] (decDigits n.natAbs) (decDigits n.natAbs).length 0 n.natAbs (.inr rfl) (by simp) (by rw [List.take_length]; exact hv) (Nat.le_refl _) hd
    have e2 : (itoa n).length = [(45 : UInt8)].length + (decDigits n.natAbs).length := by rw [e]; simp; omega
    rw [show itoa n = [45] ++ decDigits n.natAbs from e] at e2 ⊢
    rw [e2, this]
    have : (bif true then -(n.natAbs : Int) else (n.natAbs : Int)) = n := by simp; omega
    simp only [this, Prod.mk.injEq, true_and, beq_iff_eq]
    exact e
  · have := numF_dec false [] (decDigits n.natAbs) (decDigits n.natAbs).length 0 n.natAbs (.inl rfl) (by simp) (by rw [List.take_length]; exact hv) (Nat.le_refl _) hd
    simp only [List.nil_append, List.length_nil, Nat.zero_add] at this
    rw [e, this]
    have : (bif false then -(n.natAbs : Int) else (n.natAbs : Int)) = n := by simp; omega
    simp only [this, Prod.mk.injEq, true_and, beq_iff_eq]
    exact e
end Go.Ch

/- The text of a grid: its lines, its words, and that it is read back. No program in this text. -/
namespace Go.Ch
open Go Go.Ax Go.Proofs Go.Proofs.Tryz
open Go.Lib (itoa)
set_option maxRecDepth 100000

def hd (g : Grid) : List Int := [g.x, g.y, g.side, g.cols, g.rows]
def gridW : List UInt8 := [103, 114, 105, 100]
def headT (g : Grid) (k : Nat) : List UInt8 := gridW ++ ((hd g).take k).flatMap fun n => 32 :: itoa n
theorem headT_ne (g : Grid) (k : Nat) : headT g k ≠ [] := by simp [headT, gridW]
theorem headT_succ (g : Grid) {i : Nat} (h : i < 5) : headT g (i + 1) = headT g i ++ (32 :: itoa ((hd g).getD i 0)) := by
  match i, h with
  | 0, _ => simp [headT, hd]
  | 1, _ => simp [headT, hd]
  | 2, _ => simp [headT, hd]
  | 3, _ => simp [headT, hd]
  | 4, _ => simp [headT, hd]
def wrd (n : Int) : List UInt8 := bif n == 30000 then [45] else itoa n
theorem wrd_ne (n : Int) : wrd n ≠ [] := by
  unfold wrd
  cases n == 30000
  · exact itoa_ne n
  · simp
theorem wrd_byte (n : Int) : ∀ b ∈ wrd n, b.toNat = 45 ∨ (48 ≤ b.toNat ∧ b.toNat ≤ 57) := by
  intro b hb
  unfold wrd at hb
  cases h : n == 30000 with
  | true => rw [h] at hb; simp at hb; subst hb; exact .inl rfl
  | false => rw [h] at hb; exact itoa_byte n b hb
def sepT (g : Grid) (i : Nat) : UInt8 := bif (i : Int).tmod g.cols == g.cols - 1 then 10 else 32
def bodyT (g : Grid) : Nat → List UInt8
  | 0 => []
  | k + 1 => bodyT g k ++ (wrd (g.levels.getD k 0) ++ [sepT g k])
def textG (g : Grid) : List UInt8 := headT g 5 ++ [10] ++ bodyT g g.levels.length
def sepR (g : Grid) (i : Nat) : UInt8 := bif (i : Int).tmod g.cols == 0 then 10 else 32
def bodyR (g : Grid) : Nat → List UInt8
  | 0 => []
  | k + 1 => bodyR g k ++ (sepR g k :: wrd (g.levels.getD k 0))
def textR (g : Grid) (k : Nat) : List UInt8 := headT g 5 ++ bodyR g k

theorem sep_mod {g : Grid} (hc : 1 ≤ g.cols) (i : Nat) : (i : Int).tmod g.cols = ((i % g.cols.toNat : Nat) : Int) := by
  rw [Int.tmod_eq_emod_of_nonneg (by omega)]
  rw [Int.natCast_emod, Int.toNat_of_nonneg (by omega)]
theorem sepT_nat {g : Grid} (hc : 1 ≤ g.cols) (i : Nat) : sepT g i = if i % g.cols.toNat = g.cols.toNat - 1 then 10 else 32 := by
  unfold sepT
  rw [sep_mod hc]
  by_cases h : i % g.cols.toNat = g.cols.toNat - 1
  · rw [if_pos h, show (((i % g.cols.toNat : Nat) : Int) == g.cols - 1) = true by rw [beq_iff_eq]; omega]; rfl
  · rw [if_neg h, show (((i % g.cols.toNat : Nat) : Int) == g.cols - 1) = false by rw [beq_eq_false_iff_ne]; omega]; rfl
theorem sepR_nat {g : Grid} (hc : 1 ≤ g.cols) (i : Nat) : sepR g i = if i % g.cols.toNat = 0 then 10 else 32 := by
  unfold sepR
  rw [sep_mod hc]
  by_cases h : i % g.cols.toNat = 0
  · rw [if_pos h, h]; rfl
  · rw [if_neg h, show (((i % g.cols.toNat : Nat) : Int) == 0) = false by rw [beq_eq_false_iff_ne]; omega]; rfl
theorem mod_succ {i c : Nat} (hc : 1 ≤ c) : (i + 1) % c = 0 ↔ i % c = c - 1 := by
  have h1 := Nat.div_add_mod i c
  have h2 := Nat.mod_lt i (show 0 < c by omega)
  constructor
  · intro h
    rcases Nat.lt_or_ge (i % c) (c - 1) with h3 | h3
    · exfalso
      have : (i + 1) % c = i % c + 1 := by
        conv => lhs; rw [← h1]
        rw [show c * (i / c) + i % c + 1 = (i % c + 1) + c * (i / c) by omega, Nat.add_mul_mod_self_left, Nat.mod_eq_of_lt (by omega)]
      omega
    · omega
  · intro h
    conv => lhs; rw [← h1]
    rw [h, show c * (i / c) + (c - 1) + 1 = c * (i / c + 1) by rw [Nat.mul_add]; omega]
    exact Nat.mul_mod_right _ _
theorem sepR_succ {g : Grid} (hc : 1 ≤ g.cols) (i : Nat) : sepR g (i + 1) = sepT g i := by
  rw [sepR_nat hc, sepT_nat hc]
  by_cases h : i % g.cols.toNat = g.cols.toNat - 1
  · rw [if_pos h, if_pos ((mod_succ (by omega)).2 h)]
  · rw [if_neg h, if_neg fun h' => h ((mod_succ (by omega)).1 h')]
theorem bodyR_eq {g : Grid} (hc : 1 ≤ g.cols) : ∀ k, bodyR g k ++ [sepR g k] = 10 :: bodyT g k
  | 0 => by rw [sepR_nat hc]; simp [bodyR, bodyT]
  | k + 1 => by
    have := bodyR_eq hc k
    rw [sepR_succ hc]
    simp only [bodyR, bodyT]
    rw [show bodyR g k ++ (sepR g k :: wrd (g.levels.getD k 0)) = (bodyR g k ++ [sepR g k]) ++ wrd (g.levels.getD k 0) by simp, this]
    simp
theorem GVal.count {g : Grid} (v : GVal g) : g.levels.length = g.rows.toNat * g.cols.toNat := by
  have h := v.len
  have h1 := v.cols; have h2 := v.rows
  have : ((g.rows.toNat * g.cols.toNat : Nat) : Int) = g.cols * g.rows := by
    rw [Int.natCast_mul, Int.toNat_of_nonneg (by omega), Int.toNat_of_nonneg (by omega), Int.mul_comm]
  omega
theorem textR_eq {g : Grid} (v : GVal g) : textR g g.levels.length ++ [10] = textG g := by
  have hc := v.cols.1
  have h := bodyR_eq hc g.levels.length
  have : sepR g g.levels.length = 10 := by
    rw [sepR_nat hc, v.count, if_pos (Nat.mul_mod_left _ _)]
  rw [this] at h
  unfold textR textG
  rw [List.append_assoc, h]
  simp

/-- Words with their separators. -/
def joinS (s : UInt8) (ws : List (List UInt8)) (w : List UInt8) : List UInt8 := ws.flatMap (fun x => x ++ [s]) ++ w
def cutStep (s : UInt8) (out : List (List UInt8)) (b : UInt8) : List (List UInt8) := bif b == s then out ++ [[]] else out.dropLast ++ [out.getLastD [] ++ [b]]
def cutL (s : UInt8) (l : List UInt8) : List (List UInt8) := l.foldl (cutStep s) [[]]
theorem cut_run {s : UInt8} : ∀ (l : List UInt8) (out : List (List UInt8)) (cur : List UInt8), (∀ b ∈ l, b ≠ s) → l.foldl (cutStep s) (out ++ [cur]) = out ++ [cur ++ l]
  | [], out, cur, _ => by simp
  | b :: l, out, cur, h => by
    have hb : (b == s) = false := by rw [beq_eq_false_iff_ne]; exact h b List.mem_cons_self
    have e : cutStep s (out ++ [cur]) b = out ++ [cur ++ [b]] := by
      unfold cutStep
      rw [hb]
      simp
    rw [List.foldl_cons, e, cut_run l out _ (fun x hx => h x (List.mem_cons_of_mem _ hx))]
    simp
theorem cut_words {s : UInt8} : ∀ (ws out : List (List UInt8)), (∀ w ∈ ws, ∀ b ∈ w, b ≠ s) → (ws.flatMap (fun x => x ++ [s])).foldl (cutStep s) (out ++ [[]]) = (out ++ ws) ++ [[]]
  | [], out, _ => by simp
  | w :: ws, out, h => by
    rw [List.flatMap_cons, List.foldl_append, List.foldl_append, cut_run w out [] (h w List.mem_cons_self)]
    have e : List.foldl (cutStep s) (out ++ [[] ++ w]) [s] = (out ++ [w]) ++ [[]] := by
      simp [cutStep]
    rw [e, cut_words ws (out ++ [w]) (fun x hx => h x (List.mem_cons_of_mem _ hx))]
    simp
theorem cutL_join {s : UInt8} {ws : List (List UInt8)} {w : List UInt8} (h : ∀ x ∈ ws, ∀ b ∈ x, b ≠ s) (hw : ∀ b ∈ w, b ≠ s) : cutL s (joinS s ws w) = ws ++ [w] := by
  unfold cutL joinS
  have := cut_words ws [] h
  simp only [List.nil_append] at this
  rw [List.foldl_append, this, cut_run w ws [] hw]
  simp
theorem cutStep_len (s : UInt8) (out : List (List UInt8)) (b : UInt8) (h : out ≠ []) : cutStep s out b ≠ [] ∧ out.length ≤ (cutStep s out b).length ∧ (cutStep s out b).length ≤ out.length + 1 := by
  have hp := List.length_pos_iff.2 h
  unfold cutStep
  cases b == s
  · refine ⟨by simp, ?_, ?_⟩ <;> simp <;> omega
  · refine ⟨by simp, ?_, ?_⟩ <;> simp
theorem cut_fold_len (s : UInt8) : ∀ (l : List UInt8) (out : List (List UInt8)), out ≠ [] → l.foldl (cutStep s) out ≠ [] ∧ (l.foldl (cutStep s) out).length ≤ out.length + l.length
  | [], out, h => ⟨h, by simp⟩
  | b :: l, out, h => by
    obtain ⟨h1, _, h3⟩ := cutStep_len s out b h
    obtain ⟨k1, k2⟩ := cut_fold_len s l _ h1
    rw [List.foldl_cons]
    exact ⟨k1, by simp; omega⟩
theorem cutL_len (s : UInt8) (l : List UInt8) : cutL s l ≠ [] ∧ (cutL s l).length ≤ 1 + l.length := cut_fold_len s l [[]] (by simp)
theorem cutL_snoc (s : UInt8) (l : List UInt8) (b : UInt8) : cutL s (l ++ [b]) = cutStep s (cutL s l) b := by simp [cutL]
theorem cut_elem (s : UInt8) : ∀ (l : List UInt8) (out : List (List UInt8)) (m : Nat), (∀ w ∈ out, w.length ≤ m) → ∀ w ∈ l.foldl (cutStep s) out, w.length ≤ m + l.length
  | [], out, m, h, w, hw => by simpa using h w hw
  | b :: l, out, m, h, w, hw => by
    rw [List.foldl_cons] at hw
    have := cut_elem s l (cutStep s out b) (m + 1) (fun x hx => by
      unfold cutStep at hx
      cases hb : b == s with
      | true =>
        rw [hb] at hx
        simp at hx
        rcases hx with hx | rfl
        · have := h x hx; omega
        · simp
      | false =>
        rw [hb] at hx
        simp only [cond_false, List.mem_append, List.mem_cons, List.not_mem_nil, or_false] at hx
        rcases hx with hx | rfl
        · have := h x (List.dropLast_subset _ hx); omega
        · cases ho : out.getLast? with
          | none => simp [List.getLastD_eq_getLast?, ho]
          | some q =>
            have := h q (List.mem_of_getLast? ho)
            simp [List.getLastD_eq_getLast?, ho]; omega) w hw
    simp; omega
theorem cutL_elem {s : UInt8} {l w : List UInt8} (h : w ∈ cutL s l) : w.length ≤ l.length := by
  have := cut_elem s l [[]] 0 (by simp) w h
  omega

/-- The line of a row. -/
def rowW (g : Grid) (r c : Nat) : List UInt8 := wrd (g.levels.getD (r * g.cols.toNat + c) 0)
def lineG (g : Grid) (r : Nat) : List UInt8 := joinS 32 ((List.range (g.cols.toNat - 1)).map (rowW g r)) (rowW g r (g.cols.toNat - 1))
theorem mod_row {C r c : Nat} (h : c < C) : (r * C + c) % C = c := by
  rw [Nat.add_comm, Nat.add_mul_mod_self_right, Nat.mod_eq_of_lt h]
theorem bodyT_in {g : Grid} (hc : 1 ≤ g.cols) (r : Nat) : ∀ c, c ≤ g.cols.toNat - 1 → bodyT g (r * g.cols.toNat + c) = bodyT g (r * g.cols.toNat) ++ ((List.range c).map (rowW g r)).flatMap (fun x => x ++ [32])
  | 0, _ => by simp
  | c + 1, h => by
    rw [← Nat.add_assoc, bodyT, bodyT_in hc r c (by omega), sepT_nat hc, mod_row (by omega), if_neg (by omega), List.range_succ]
    simp [rowW]
theorem bodyT_row {g : Grid} (hc : 1 ≤ g.cols) (r : Nat) : bodyT g ((r + 1) * g.cols.toNat) = bodyT g (r * g.cols.toNat) ++ (lineG g r ++ [10]) := by
  have e : (r + 1) * g.cols.toNat = r * g.cols.toNat + (g.cols.toNat - 1) + 1 := by rw [Nat.add_mul]; omega
  rw [e, bodyT, bodyT_in hc r _ (Nat.le_refl _), sepT_nat hc, mod_row (by omega), if_pos rfl]
  simp [lineG, joinS, rowW]
theorem bodyT_rows {g : Grid} (hc : 1 ≤ g.cols) : ∀ r, bodyT g (r * g.cols.toNat) = ((List.range r).map (lineG g)).flatMap (fun x => x ++ [10])
  | 0 => by simp [bodyT]
  | r + 1 => by
    rw [bodyT_row hc, bodyT_rows hc r, List.range_succ]
    simp
def headW (g : Grid) : List (List UInt8) := [gridW, itoa g.x, itoa g.y, itoa g.side, itoa g.cols, itoa g.rows]
theorem headT_join (g : Grid) : headT g 5 = joinS 32 [gridW, itoa g.x, itoa g.y, itoa g.side, itoa g.cols] (itoa g.rows) := by
  simp [headT, joinS, hd]
theorem ne_of_byte {b s : UInt8} (h : b.toNat = 45 ∨ (48 ≤ b.toNat ∧ b.toNat ≤ 57)) (hs : s.toNat < 45) : b ≠ s := by
  rintro rfl; omega
theorem gridW_ne {s : UInt8} (hs : s.toNat < 45) : ∀ b ∈ gridW, b ≠ s := by
  intro b hb
  simp only [gridW, List.mem_cons, List.not_mem_nil, or_false] at hb
  rintro rfl
  rcases hb with rfl | rfl | rfl | rfl <;> simp at hs
theorem itoa_nes {n : Int} {s : UInt8} (hs : s.toNat < 45) : ∀ b ∈ itoa n, b ≠ s := fun b hb => ne_of_byte (itoa_byte n b hb) hs
theorem wrd_nes {n : Int} {s : UInt8} (hs : s.toNat < 45) : ∀ b ∈ wrd n, b ≠ s := fun b hb => ne_of_byte (wrd_byte n b hb) hs
theorem cut_head (g : Grid) : cutL 32 (headT g 5) = headW g := by
  rw [headT_join, cutL_join]
  · rfl
  · intro x hx
    simp only [List.mem_cons, List.not_mem_nil, or_false] at hx
    rcases hx with rfl | rfl | rfl | rfl | rfl
    · exact gridW_ne (by decide)
    all_goals exact itoa_nes (by decide)
  · exact itoa_nes (by decide)
theorem cut_line {g : Grid} (hc : 1 ≤ g.cols) (r : Nat) : cutL 32 (lineG g r) = (List.range g.cols.toNat).map (rowW g r) := by
  unfold lineG
  rw [cutL_join]
  · conv => rhs; rw [show g.cols.toNat = (g.cols.toNat - 1) + 1 by omega, List.range_succ]
    simp
  · intro x hx
    simp only [List.mem_map] at hx
    obtain ⟨c, _, rfl⟩ := hx
    exact wrd_nes (by decide)
  · exact wrd_nes (by decide)
theorem join_byte {ws : List (List UInt8)} {w : List UInt8} {s q : UInt8} (hq : s ≠ q) (h : ∀ x ∈ ws, ∀ b ∈ x, b ≠ q) (hw : ∀ b ∈ w, b ≠ q) : ∀ b ∈ joinS s ws w, b ≠ q := by
  intro b hb
  simp only [joinS, List.mem_append, List.mem_flatMap, List.mem_cons, List.not_mem_nil, or_false] at hb
  rcases hb with ⟨x, hx, hb | rfl⟩ | hb
  · exact h x hx b hb
  · exact hq
  · exact hw b hb
theorem text_join {g : Grid} (v : GVal g) : textG g = joinS 10 (headT g 5 :: (List.range g.rows.toNat).map (lineG g)) [] := by
  unfold textG joinS
  rw [v.count, bodyT_rows v.cols.1]
  simp
theorem cut_text {g : Grid} (v : GVal g) : cutL 10 (textG g) = (headT g 5 :: (List.range g.rows.toNat).map (lineG g)) ++ [[]] := by
  rw [text_join v, cutL_join]
  · intro x hx
    simp only [List.mem_cons, List.mem_map] at hx
    rcases hx with rfl | ⟨r, _, rfl⟩
    · rw [headT_join]
      refine join_byte (by decide) ?_ (itoa_nes (by decide))
      intro x hx
      simp only [List.mem_cons, List.not_mem_nil, or_false] at hx
      rcases hx with rfl | rfl | rfl | rfl | rfl
      · exact gridW_ne (by decide)
      all_goals exact itoa_nes (by decide)
    · refine join_byte (by decide) ?_ (wrd_nes (by decide))
      intro x hx
      simp only [List.mem_map] at hx
      obtain ⟨c, _, rfl⟩ := hx
      exact wrd_nes (by decide)
  · intro b hb; cases hb

/-- Words between white space. -/
theorem fieldsGo_word : ∀ (w cur : List UInt8) (s : UInt8) (rest : List UInt8), (∀ b ∈ w, Lib.isSp b = false) → Lib.isSp s = true → cur ++ w ≠ [] → Lib.fieldsGo cur (w ++ s :: rest) = (cur ++ w) :: Lib.fieldsGo [] rest
  | [], cur, s, rest, _, hs, hn => by
    have hc : cur.isEmpty = false := by cases cur <;> simp at hn ⊢
    simp [Lib.fieldsGo, hs, hc]
  | b :: w, cur, s, rest, h, hs, hn => by
    have hb := h b List.mem_cons_self
    rw [List.cons_append, Lib.fieldsGo, hb]
    simp only [Bool.false_eq_true, if_false]
    rw [fieldsGo_word w (cur ++ [b]) s rest (fun x hx => h x (List.mem_cons_of_mem _ hx)) hs (by simp)]
    simp
theorem fields_pairs : ∀ (ps : List (List UInt8 × UInt8)), (∀ p ∈ ps, p.1 ≠ [] ∧ (∀ b ∈ p.1, Lib.isSp b = false) ∧ Lib.isSp p.2 = true) → Lib.fields (ps.flatMap fun p => p.1 ++ [p.2]) = ps.map (·.1)
  | [], _ => rfl
  | p :: ps, h => by
    obtain ⟨h1, h2, h3⟩ := h p List.mem_cons_self
    have ih := fields_pairs ps (fun q hq => h q (List.mem_cons_of_mem _ hq))
    unfold Lib.fields at ih ⊢
    rw [List.flatMap_cons, List.append_assoc, List.singleton_append, fieldsGo_word p.1 [] p.2 _ h2 h3 (by simpa using h1), ih]
    simp
def pairsG (g : Grid) : List (List UInt8 × UInt8) :=
  [(gridW, 32), (itoa g.x, 32), (itoa g.y, 32), (itoa g.side, 32), (itoa g.cols, 32), (itoa g.rows, 10)] ++ (List.range g.levels.length).map fun i => (wrd (g.levels.getD i 0), sepT g i)
theorem bodyT_pairs (g : Grid) : ∀ k, bodyT g k = ((List.range k).map fun i => (wrd (g.levels.getD i 0), sepT g i)).flatMap fun p => p.1 ++ [p.2]
  | 0 => rfl
  | k + 1 => by rw [bodyT, bodyT_pairs g k, List.range_succ]; simp
theorem text_pairs (g : Grid) : textG g = (pairsG g).flatMap fun p => p.1 ++ [p.2] := by
  unfold textG pairsG
  rw [bodyT_pairs, headT_join]
  simp [joinS]
theorem sp_byte {b : UInt8} (h : b.toNat = 45 ∨ (48 ≤ b.toNat ∧ b.toNat ≤ 57)) : Lib.isSp b = false := by
  unfold Lib.isSp
  simp only [Bool.or_eq_false_iff, beq_eq_false_iff_ne]
  refine ⟨⟨⟨⟨⟨?_, ?_⟩, ?_⟩, ?_⟩, ?_⟩, ?_⟩ <;> exact ne_of_byte h (by decide)
theorem sepT_cases (g : Grid) (i : Nat) : sepT g i = 10 ∨ sepT g i = 32 := by
  unfold sepT
  cases (i : Int).tmod g.cols == g.cols - 1
  · exact .inr rfl
  · exact .inl rfl
theorem pairs_ok (g : Grid) : ∀ p ∈ pairsG g, p.1 ≠ [] ∧ (∀ b ∈ p.1, Lib.isSp b = false) ∧ Lib.isSp p.2 = true := by
  intro p hp
  have hi : ∀ n : Int, itoa n ≠ [] ∧ (∀ b ∈ itoa n, Lib.isSp b = false) := fun n => ⟨itoa_ne n, fun b hb => sp_byte (itoa_byte n b hb)⟩
  simp only [pairsG, List.mem_append, List.mem_cons, List.not_mem_nil, or_false, List.mem_map] at hp
  rcases hp with (rfl | rfl | rfl | rfl | rfl | rfl) | ⟨i, _, rfl⟩
  · refine ⟨by simp [gridW], ?_, by decide⟩
    have : gridW.all (fun b => !Lib.isSp b) = true := by decide
    intro b hb
    simpa using List.all_eq_true.1 this b hb
  · exact ⟨(hi _).1, (hi _).2, rfl⟩
  · exact ⟨(hi _).1, (hi _).2, rfl⟩
  · exact ⟨(hi _).1, (hi _).2, rfl⟩
  · exact ⟨(hi _).1, (hi _).2, rfl⟩
  · exact ⟨(hi _).1, (hi _).2, rfl⟩
  · refine ⟨wrd_ne _, fun b hb => sp_byte (wrd_byte _ b hb), ?_⟩
    rcases sepT_cases g i with h | h <;> rw [h] <;> rfl
theorem pairs_ascii (g : Grid) : ∀ b ∈ textG g, b.toNat < 128 := by
  rw [text_pairs]
  intro b hb
  obtain ⟨p, hp, hb⟩ := List.mem_flatMap.1 hb
  have hi : ∀ n : Int, ∀ b ∈ itoa n, b.toNat < 128 := fun n b hb => by rcases itoa_byte n b hb with h | h <;> omega
  simp only [pairsG, List.mem_append, List.mem_cons, List.not_mem_nil, or_false, List.mem_map] at hp hb
  rcases hb with hb | rfl
  · rcases hp with (rfl | rfl | rfl | rfl | rfl | rfl) | ⟨i, _, rfl⟩
    · have : gridW.all (fun b => decide (b.toNat < 128)) = true := by decide
      simpa using List.all_eq_true.1 this b hb
    · exact hi _ b hb
    · exact hi _ b hb
    · exact hi _ b hb
    · exact hi _ b hb
    · exact hi _ b hb
    · rcases wrd_byte _ b hb with h | h <;> omega
  · have hc : ∀ b : UInt8, (b = 10 ∨ b = 32) → b.toNat < 128 := by
      intro b hb; rcases hb with rfl | rfl <;> decide
    refine hc _ ?_
    rcases hp with (rfl | rfl | rfl | rfl | rfl | rfl) | ⟨i, _, rfl⟩
    · exact .inr rfl
    · exact .inr rfl
    · exact .inr rfl
    · exact .inr rfl
    · exact .inr rfl
    · exact .inl rfl
    · exact sepT_cases g i
/-- The words behind the first. -/
def wds (g : Grid) : List (List UInt8) := (hd g).map itoa ++ g.levels.map wrd
def allN (g : Grid) : List Int := hd g ++ g.levels
theorem range_getD {α β : Type} (f : α → β) (l : List α) (d : α) : (List.range l.length).map (fun i => f (l.getD i d)) = l.map f := by
  apply List.ext_getElem
  · simp
  · intro i h1 h2
    simp at h1
    simp [List.getD, h1]
theorem fields_text (g : Grid) : Lib.fieldsD (textG g) = gridW :: wds g := by
  rw [Lib.fieldsD_ascii _ (pairs_ascii g), text_pairs, fields_pairs _ (pairs_ok g)]
  simp only [pairsG, List.map_append, List.map_cons, List.map_nil, List.map_map, wds, hd]
  rw [show ((fun x : List UInt8 × UInt8 => x.1) ∘ fun i => (wrd (g.levels.getD i 0), sepT g i)) = fun i => wrd (g.levels.getD i 0) from rfl, range_getD wrd g.levels 0]
  rfl
/-- What bed.Parse reads from the word with number i. -/
def rdW (i : Nat) (w : List UInt8) : Option Int := bif w == [45] && decide (5 ≤ i) then some 30000 else bif atE w then none else some (atN w)
theorem itoa_dash (n : Int) : (itoa n == [45]) = false := by
  rw [beq_eq_false_iff_ne]
  intro h
  rcases itoa_cases n with ⟨_, e⟩ | ⟨_, e⟩ <;> rw [e] at h
  · injection h with _ h; exact dec_ne _ h
  · have := dec_digit _ _ (Nat.le_refl n.natAbs) 45 (by rw [h]; exact List.mem_cons_self)
    simp at this
theorem GVal.small {g : Grid} (v : GVal g) : ∀ n ∈ hd g, n.natAbs < 100000000 := by
  intro n hn
  have := v.x; have := v.y; have := v.side; have := v.cols; have := v.rows
  simp only [hd, List.mem_cons, List.not_mem_nil, or_false] at hn
  rcases hn with rfl | rfl | rfl | rfl | rfl <;> omega
theorem GVal.lev8 {g : Grid} (v : GVal g) : ∀ n ∈ g.levels, n.natAbs < 100000000 := by
  intro n hn
  have := v.lev n hn
  omega
theorem rdW_itoa {n : Int} (i : Nat) (h : n.natAbs < 100000000) : rdW i (itoa n) = some n := by
  unfold rdW
  rw [itoa_dash, atE_itoa h, atN_itoa h]; rfl
theorem rdW_wrd {n : Int} {i : Nat} (hi : 5 ≤ i) (h : n.natAbs < 100000000) : rdW i (wrd n) = some n := by
  unfold wrd
  cases hn : n == 30000 with
  | true => obtain rfl : n = 30000 := by simpa using hn
            simp [rdW, hi]
  | false => exact rdW_itoa i h
theorem wds_length (g : Grid) : (wds g).length = (allN g).length := by simp [wds, allN]
theorem rdW_wds {g : Grid} (v : GVal g) {i : Nat} (hi : i < (wds g).length) : rdW i ((wds g)[i]) = some ((allN g)[i]'(by rw [← wds_length]; exact hi)) := by
  have hi' : i < (allN g).length := by rw [← wds_length]; exact hi
  by_cases h : i < (hd g).length
  · have e1 : (wds g)[i] = itoa ((hd g)[i]) := by
      simp only [wds]
      rw [List.getElem_append_left (by simpa using h), List.getElem_map]
    have e2 : (allN g)[i] = (hd g)[i] := by
      simp only [allN]
      rw [List.getElem_append_left h]
    rw [e1, e2]
    exact rdW_itoa i (v.small _ (List.getElem_mem h))
  · have hl : i - (hd g).length < g.levels.length := by simp [allN] at hi'; omega
    have e1 : (wds g)[i] = wrd (g.levels[i - (hd g).length]) := by
      simp only [wds]
      rw [List.getElem_append_right (by simpa using h), List.getElem_map]
      simp only [List.length_map]
    have e2 : (allN g)[i] = g.levels[i - (hd g).length] := by
      simp only [allN]
      rw [List.getElem_append_right (by omega)]
    rw [e1, e2]
    exact rdW_wrd (by have : (hd g).length = 5 := rfl; omega) (v.lev8 _ (List.getElem_mem _))
theorem wds_inj {g g' : Grid} (v : GVal g) (v' : GVal g') (h : wds g = wds g') : g = g' := by
  have e : allN g = allN g' := by
    apply List.ext_getElem
    · rw [← wds_length, ← wds_length, h]
    · intro i h1 h2
      have a := rdW_wds v (i := i) (by rw [wds_length]; exact h1)
      have b := rdW_wds v' (i := i) (by rw [wds_length]; exact h2)
      simp only [h] at a
      rw [a] at b
      exact Option.some.inj b
  obtain ⟨x, y, s, c, r, l⟩ := g
  obtain ⟨x', y', s', c', r', l'⟩ := g'
  simp only [allN, hd, List.cons_append, List.nil_append, List.cons.injEq] at e
  obtain ⟨rfl, rfl, rfl, rfl, rfl, rfl⟩ := e
  rfl
theorem text_inj {g g' : Grid} (v : GVal g) (v' : GVal g') (h : textG g = textG g') : g = g' := by
  have := fields_text g
  rw [h, fields_text g'] at this
  injection this with _ this
  exact (wds_inj v' v this).symm
open Classical in
/-- The grid that a text is of. -/
noncomputable def readT (s : List UInt8) : Option Grid := if h : ∃ g, GVal g ∧ textG g = s then some (Classical.choose h) else none
theorem readT_text {g : Grid} (v : GVal g) : readT (textG g) = some g := by
  unfold readT
  have h : ∃ g', GVal g' ∧ textG g' = textG g := ⟨g, v, rfl⟩
  rw [dif_pos h]
  obtain ⟨v', e⟩ := Classical.choose_spec h
  exact congrArg some (text_inj v' v e)
theorem readT_none {s : List UInt8} (h : ∀ g, GVal g → textG g ≠ s) : readT s = none := by
  unfold readT
  rw [dif_neg]
  rintro ⟨g, v, e⟩
  exact h g v e
theorem readT_some {s : List UInt8} {g : Grid} (h : readT s = some g) : GVal g ∧ textG g = s := by
  unfold readT at h
  split at h
  · rename_i hx
    have := Classical.choose_spec hx
    cases h
    exact this
  · cases h
theorem GVal.err {g : Grid} (v : GVal g) : errG g = 0 := by
  obtain ⟨q1, q2, q3, q4, q5, q6, q7, q8, q9, q10⟩ := v
  have m1 := mul_le_of (a := g.cols) (b := g.rows) (A := 1024) (B := 1024) (by omega) (by omega) (by omega) (by omega)
  have m2 := mul_le_of (a := g.cols) (b := g.side) (A := 1024) (B := 10000) (by omega) (by omega) (by omega) (by omega)
  have m3 := mul_le_of (a := g.rows) (b := g.side) (A := 1024) (B := 10000) (by omega) (by omega) (by omega) (by omega)
  unfold errG
  rw [w64_of (n := g.cols * g.rows) (by omega) (by omega), w64_of (n := g.cols * g.side) (by omega) (by omega), w64_of (n := g.rows * g.side) (by omega) (by omega),
    w64_of (n := g.x + g.cols * g.side) (by omega) (by omega), w64_of (n := g.y + g.rows * g.side) (by omega) (by omega)]
  have h1 : e1 g = false := by
    unfold e1 within
    simp only [Bool.or_eq_false_iff, Bool.not_eq_false', Bool.and_eq_true, decide_eq_true_eq, ge_iff_le]
    exact ⟨⟨⟨⟨q1, q2⟩, q3⟩, q4⟩, q5⟩
  have h2 : decide (g.cols * g.rows > 1024) = false := by simp; omega
  have h3 : (decide (g.x + g.cols * g.side > 1000000) || decide (g.y + g.rows * g.side > 1000000)) = false := by simp; omega
  have h4 : ((g.levels.length : Int) != g.cols * g.rows) = false := by simp; exact q9
  have h5 : g.levels.any badL = false := by
    rw [List.any_eq_false]
    intro n hn
    unfold badL within
    rcases q10 n hn with h | h
    · simp [h]
    · simp; intro _; omega
  rw [h1, h2, h3, h4, h5]; rfl
end Go.Ch

namespace Go.Proofs
open Go.Shelf
def Tryz.lays137_ren : Go.Shelf.Ren := ⟨fun | 137 => 91 | 217 => 126 | 266 => 148 | n => n, fun | 9 => 9 | 5 => 5 | 3 => 3 | n => n, fun | n => n⟩
theorem Tryz.lays137 : Go.Proofs.Lays.n137 Tryz.prog Tryz.lays137_ren := {
  mixed := by kernel_rfl
  f137 := Tryz.func91.trans (congrArg some (by kernel_rfl))
  f217 := Tryz.func126.trans (congrArg some (by kernel_rfl))
  f266 := Tryz.func148.trans (congrArg some (by kernel_rfl))
  t3 := Tryz.underlying3
  a3 := Tryz.isAgg3
  z3 := Tryz.sizeOf3
  v3 := Tryz.zeroValue3
  t5 := Tryz.underlying5
  a5 := Tryz.isAgg5
  z5 := Tryz.sizeOf5
  v5 := Tryz.zeroValue5
  t9 := Tryz.underlying9
  a9 := Tryz.isAgg9
  z9 := Tryz.sizeOf9
  v9 := Tryz.zeroValue9 }
open Go.RowKit in
/-- strings.IndexByte: "IndexByte returns the index of the first instance of c in s, or -1 if c is not present in s.": IT RETURNS 'Lib.indexByte s c'; the world is as it was. (LAID: no walk: one application.) -/
theorem Tryz.strings_IndexByte (s : ByteArray) (c : Int) (w : World) :
    Calls Tryz.prog 91 #[.string s, .int .u8 c] w fun e w' => e = .returned (.int .i64 (Lib.indexByte s.data.toList c.toNat.toUInt8)) ∧ w' = w := Any.strings_IndexByte Tryz.lays137 s c w
def Tryz.lays104_ren : Go.Shelf.Ren := ⟨fun | 104 => 51 | 211 => 92 | 207 => 127 | n => n, fun | 9 => 9 | 4 => 4 | 24 => 107 | 3 => 3 | n => n, fun | n => n⟩
theorem Tryz.lays104 : Go.Proofs.Lays.n104 Tryz.prog Tryz.lays104_ren := {
  mixed := by kernel_rfl
  f104 := Tryz.func51.trans (congrArg some (by kernel_rfl))
  f207 := Tryz.func127.trans (congrArg some (by kernel_rfl))
  f211 := Tryz.func92.trans (congrArg some (by kernel_rfl))
  t3 := Tryz.underlying3
  a3 := Tryz.isAgg3
  z3 := Tryz.sizeOf3
  v3 := Tryz.zeroValue3
  t4 := Tryz.underlying4
  a4 := Tryz.isAgg4
  z4 := Tryz.sizeOf4
  v4 := Tryz.zeroValue4
  t9 := Tryz.underlying9
  a9 := Tryz.isAgg9
  z9 := Tryz.sizeOf9
  v9 := Tryz.zeroValue9
  t24 := Tryz.underlying107
  a24 := Tryz.isAgg107
  z24 := Tryz.sizeOf107
  v24 := Tryz.zeroValue107 }
open Go.RowKit in
/-- strings.CutSuffix: "CutSuffix returns s without the provided ending suffix string and reports whether it found the suffix. If s doesn't end with suffix, CutSuffix returns s, false. If suffix is the empty string, CutSuffix returns s, true.": IT RETURNS '(Lib.trimSuffix s p, Lib.hasSuffix s p)'; the world is as it was. (LAID: no walk: one application.) -/
theorem Tryz.strings_CutSuffix (s p : ByteArray) (w : World) (hs : s.size ≤ 9223372036854775807) :
    Calls Tryz.prog 51 #[.string s, .string p] w fun e w' => e = .returned (.tuple #[.string ⟨(Lib.trimSuffix s.data.toList p.data.toList).toArray⟩, .bool (Lib.hasSuffix s.data.toList p.data.toList)]) ∧ w' = w := Any.strings_CutSuffix Tryz.lays104 s p w hs
def Tryz.lays101_ren : Go.Shelf.Ren := ⟨fun | 101 => 129 | 208 => 152 | 206 => 186 | n => n, fun | 9 => 9 | 4 => 4 | 3 => 3 | n => n, fun | n => n⟩
theorem Tryz.lays101 : Go.Proofs.Lays.n101 Tryz.prog Tryz.lays101_ren := {
  mixed := by kernel_rfl
  f101 := Tryz.func129.trans (congrArg some (by kernel_rfl))
  f206 := Tryz.func186.trans (congrArg some (by kernel_rfl))
  f208 := Tryz.func152.trans (congrArg some (by kernel_rfl))
  t3 := Tryz.underlying3
  a3 := Tryz.isAgg3
  z3 := Tryz.sizeOf3
  v3 := Tryz.zeroValue3
  t4 := Tryz.underlying4
  a4 := Tryz.isAgg4
  z4 := Tryz.sizeOf4
  v4 := Tryz.zeroValue4
  t9 := Tryz.underlying9
  a9 := Tryz.isAgg9
  z9 := Tryz.sizeOf9
  v9 := Tryz.zeroValue9 }
open Go.RowKit Go.Lib in
/-- strings.TrimPrefix: "TrimPrefix returns s without the provided leading prefix string. If s doesn't start with prefix, s is returned unchanged.": IT RETURNS 'Lib.trimPrefix s prefix'; the world is as it was. (LAID: no walk: one application.) -/
theorem Tryz.strings_TrimPrefix (s p : ByteArray) (w : World) :
    Calls Tryz.prog 129 #[.string s, .string p] w fun e w' => e = .returned (.string ⟨(Lib.trimPrefix s.data.toList p.data.toList).toArray⟩) ∧ w' = w := Any.strings_TrimPrefix Tryz.lays101 s p w
end Go.Proofs

namespace Go.Proofs
open Go.Shelf
def Tryz.lays146_ren : Go.Shelf.Ren := ⟨fun | 146 => 93 | 221 => 128 | 268 => 149 | 138 => 150 | 143 => 151 | 195 => 182 | 197 => 183 | 218 => 184 | 219 => 185 | 260 => 206 | 217 => 126 | 225 => 207 | 224 => 208 | 267 => 209 | 266 => 148 | 314 => 219 | n => n, fun | 9 => 9 | 31 => 68 | 3 => 3 | 4 => 4 | 0 => 0 | 105 => 252 | 21 => 21 | 5 => 5 | 46 => 188 | 119 => 129 | 139 => 272 | 138 => 271 | 146 => 273 | 51 => 158 | n => n, fun | 1 => 4 | 3 => 6 | 4 => 7 | n => n⟩
theorem Tryz.lays146 : Go.Proofs.Lays.n146 Tryz.prog Tryz.lays146_ren := {
  mixed := by kernel_rfl
  f138 := Tryz.func150.trans (congrArg some (by kernel_rfl))
  f143 := Tryz.func151.trans (congrArg some (by kernel_rfl))
  f146 := Tryz.func93.trans (congrArg some (by kernel_rfl))
  f195 := Tryz.func182.trans (congrArg some (by kernel_rfl))
  f197 := Tryz.func183.trans (congrArg some (by kernel_rfl))
  f217 := Tryz.func126.trans (congrArg some (by kernel_rfl))
  f218 := Tryz.func184.trans (congrArg some (by kernel_rfl))
  f219 := Tryz.func185.trans (congrArg some (by kernel_rfl))
  f221 := Tryz.func128.trans (congrArg some (by kernel_rfl))
  f224 := Tryz.func208.trans (congrArg some (by kernel_rfl))
  f225 := Tryz.func207.trans (congrArg some (by kernel_rfl))
  f260 := Tryz.func206.trans (congrArg some (by kernel_rfl))
  f266 := Tryz.func148.trans (congrArg some (by kernel_rfl))
  f267 := Tryz.func209.trans (congrArg some (by kernel_rfl))
  f268 := Tryz.func149.trans (congrArg some (by kernel_rfl))
  f314 := Tryz.func219.trans (congrArg some (by kernel_rfl))
  t0 := Tryz.underlying0
  a0 := Tryz.isAgg0
  z0 := Tryz.sizeOf0
  v0 := Tryz.zeroValue0
  t3 := Tryz.underlying3
  a3 := Tryz.isAgg3
  z3 := Tryz.sizeOf3
  v3 := Tryz.zeroValue3
  t4 := Tryz.underlying4
  a4 := Tryz.isAgg4
  z4 := Tryz.sizeOf4
  v4 := Tryz.zeroValue4
  t5 := Tryz.underlying5
  a5 := Tryz.isAgg5
  z5 := Tryz.sizeOf5
  v5 := Tryz.zeroValue5
  t9 := Tryz.underlying9
  a9 := Tryz.isAgg9
  z9 := Tryz.sizeOf9
  v9 := Tryz.zeroValue9
  t21 := Tryz.underlying21
  a21 := Tryz.isAgg21
  z21 := Tryz.sizeOf21
  v21 := Tryz.zeroValue21
  t31 := Tryz.underlying68
  a31 := Tryz.isAgg68
  z31 := Tryz.sizeOf68
  v31 := Tryz.zeroValue68
  t46 := Tryz.underlying188
  a46 := Tryz.isAgg188
  z46 := Tryz.sizeOf188
  v46 := Tryz.zeroValue188
  t51 := Tryz.underlying158
  a51 := Tryz.isAgg158
  z51 := Tryz.sizeOf158
  v51 := Tryz.zeroValue158
  t105 := Tryz.underlying252
  a105 := Tryz.isAgg252
  z105 := Tryz.sizeOf252
  v105 := Tryz.zeroValue252
  t119 := Tryz.underlying129
  a119 := Tryz.isAgg129
  z119 := Tryz.sizeOf129
  t138 := Tryz.underlying271
  a138 := Tryz.isAgg271
  z138 := Tryz.sizeOf271
  v138 := Tryz.zeroValue271
  t139 := Tryz.underlying272
  a139 := Tryz.isAgg272
  z139 := Tryz.sizeOf272
  v139 := Tryz.zeroValue272
  t146 := Tryz.underlying273
  a146 := Tryz.isAgg273
  z146 := Tryz.sizeOf273
  v146 := Tryz.zeroValue273
  g1 := by kernel_rfl
  g3 := by kernel_rfl
  g4 := by kernel_rfl }
open Go.RowKit Go.Lib in
/-- strings.Split. (LAID: no walk: one application.) -/
theorem Tryz.strings_Split (s sep : ByteArray) (m : Int) (w : World) (hs : s.size < 4294967281) (hm : w.cell? ⟨4, 0, none⟩ = some (.int .i64 m)) (h1 : 1 ≤ sep.size) :
    Calls Tryz.prog 93 #[.string s, .string sep] w fun e w' =>
      e = .returned (.slice (some ⟨w.heap.size, 0, none⟩) (Lib.countB s sep + 1) (Lib.countB s sep + 1)) ∧ w' = w.alloc (.cells ((Lib.splitB sep 0 (Lib.countB s sep) s).map Value.string).toArray 9) := Any.strings_Split Tryz.lays146 (by kernel_rfl) s sep m w hs hm h1
end Go.Proofs

/- strings.CutSuffix, TrimPrefix, Split as contracts. -/
namespace Go.Ch
open Go Go.Ax Go.Proofs Go.Proofs.Tryz Go.RowKit
set_option maxRecDepth 100000

theorem CutSuffix (s p : List UInt8) (hs : s.length ≤ 9223372036854775807) : CallP Tryz.prog 51 [vT s, vT p] (.t [.s (.d (dT (Lib.trimSuffix s p))), .s (.d (.val (.bool (Lib.hasSuffix s p))))]) := by
  refine ⟨Tryz.call51, fun M w vs hg hr hM => ?_⟩
  match vs, hr with
  | [v, u], ⟨h, h2, _⟩ =>
    obtain rfl : v = .string (bs s) := h
    obtain rfl : u = .string (bs p) := h2
    refine (Tryz.strings_CutSuffix (bs s) (bs p) w (by rw [bs_size]; exact hs)).mono ?_
    rintro e w' ⟨rfl, rfl⟩
    exact ⟨_, M, rfl, ⟨[_, _], rfl, rfl, rfl, trivial⟩, Grow.refl _ _, hM, Below.refl _ _⟩

theorem TrimPrefix (s p : List UInt8) : CallP Tryz.prog 129 [vT s, vT p] (vT (Lib.trimPrefix s p)) := by
  refine ⟨Tryz.call129, fun M w vs hg hr hM => ?_⟩
  match vs, hr with
  | [v, u], ⟨h, h2, _⟩ =>
    obtain rfl : v = .string (bs s) := h
    obtain rfl : u = .string (bs p) := h2
    refine (Tryz.strings_TrimPrefix (bs s) (bs p) w).mono ?_
    rintro e w' ⟨rfl, rfl⟩
    exact ⟨_, M, rfl, rfl, Grow.refl _ _, hM, Below.refl _ _⟩

theorem slcT {M : Mem} {w : World} {ls : List (List UInt8)} {n : Nat} (hn : ls.length = n) : (dTs ls).Rep (memNew M w (w.alloc (.cells (ls.map fun l => Value.string (bs l)).toArray 9))) (.slice (some ⟨w.heap.size, 0, none⟩) n n) := by
  subst hn
  refine ⟨_, _, rfl, Nat.le_refl _, .inr ⟨w.heap.size, 0, rfl, fun i j hi hj => ?_⟩⟩
  obtain rfl : j = 0 := by omega
  refine ⟨.string (bs (ls.getD i [])), ?_, rfl⟩
  simp only [memNew, Nat.le_refl, if_true, Nat.zero_add, Nat.mul_one, Nat.add_zero]
  have h := World.alloc_heap_new w (.cells (ls.map fun l => Value.string (bs l)).toArray 9)
  simp only [World.cell?, h]
  simp [List.getD, List.getElem?_eq_getElem hi]

def splitD (s sep : List UInt8) : List (List UInt8) := (Lib.splitB (bs sep) 0 (Lib.countB (bs s) (bs sep)) (bs s)).map fun b => b.data.toList
theorem Split (s sep : List UInt8) (hs : s.length < 4294967281) (h1 : 1 ≤ sep.length) : CallP Tryz.prog 93 [vT s, vT sep] (.s (.d (dTs (splitD s sep)))) := by
  refine ⟨Tryz.call93, fun M w vs hg hr hM => ?_⟩
  match vs, hr with
  | [v, u], ⟨h, h2, _⟩ =>
    obtain rfl : v = .string (bs s) := h
    obtain rfl : u = .string (bs sep) := h2
    obtain ⟨x, hx⟩ := hg
    refine (Tryz.strings_Split (bs s) (bs sep) x.m w (by rw [bs_size]; exact hs) (by rw [tab_cells hx (g := 4) (t := #[.int .i64 x.m]) (by simp [tabsL])]; rfl) (by rw [bs_size]; exact h1)).mono ?_
    rintro e w' ⟨rfl, rfl⟩
    have hb : Below w.heap.size w (w.alloc (.cells ((Lib.splitB (bs sep) 0 (Lib.countB (bs s) (bs sep)) (bs s)).map Value.string).toArray 9)) := (Below.refl _ w).alloc (Nat.le_refl _) _
    refine ⟨_, memNew M w _, rfl, ?_, memNew_grow hM, memNew_ok hM hb, hb⟩
    have e1 : (Lib.splitB (bs sep) 0 (Lib.countB (bs s) (bs sep)) (bs s)).map Value.string = (splitD s sep).map fun l => Value.string (bs l) := by
      simp only [splitD, List.map_map]
      exact List.map_congr_left fun b _ => rfl
    rw [e1]
    exact slcT (by simp only [splitD, List.length_map]; exact Lib.splitB_all (bs sep) (by rw [bs_size]; exact h1) 0 _ (bs s) rfl)
end Go.Ch

/- Words and lines of a channel's text: pieces, numerals. No program in this text. -/
namespace Go.Ch
open Go Go.Ax Go.Proofs Go.Proofs.Tryz
open Go.Lib (itoa decDigits nDigits decFrom digitVal)
set_option maxRecDepth 100000

theorem foldl_pre (s : UInt8) : ∀ (l : List UInt8) (out L : List (List UInt8)), L ≠ [] → l.foldl (cutStep s) (out ++ L) = out ++ l.foldl (cutStep s) L
  | [], _, _, _ => rfl
  | b :: l, out, L, h => by
    have e : cutStep s (out ++ L) b = out ++ cutStep s L b := by
      unfold cutStep
      cases b == s
      · simp only [cond_false]
        obtain ⟨L', x, rfl⟩ : ∃ L' x, L = L' ++ [x] := ⟨L.dropLast, L.getLast h, (List.dropLast_concat_getLast h).symm⟩
        rw [← List.append_assoc, List.dropLast_concat, List.dropLast_concat, List.getLastD_concat, List.getLastD_concat, List.append_assoc]
      · simp
    have hn : cutStep s L b ≠ [] := (cutStep_len s L b h).1
    rw [List.foldl_cons, List.foldl_cons, e, foldl_pre s l out _ hn]
theorem cutL_none {s : UInt8} {l : List UInt8} (h : s ∉ l) : cutL s l = [l] := by
  have := cut_run (s := s) l [] [] (fun b hb e => h (e ▸ hb))
  simpa [cutL] using this
theorem cutL_at {s : UInt8} {a : List UInt8} (b : List UInt8) (h : s ∉ a) : cutL s (a ++ s :: b) = a :: cutL s b := by
  have h1 := cut_run (s := s) a [] [] (fun b hb e => h (e ▸ hb))
  have h1 : a.foldl (cutStep s) [[]] = [a] := by simpa using h1
  unfold cutL
  rw [List.foldl_append, h1, List.foldl_cons]
  have e : cutStep s [a] s = [a] ++ [[]] := by simp [cutStep]
  rw [e, foldl_pre s b [a] [[]] (by simp)]
  rfl
theorem first_cases (c : UInt8) : ∀ l : List UInt8, (c ∉ l) ∨ ∃ a b, l = a ++ c :: b ∧ c ∉ a
  | [] => .inl (by simp)
  | x :: l => by
    by_cases h : x = c
    · subst h; exact .inr ⟨[], l, rfl, by simp⟩
    · rcases first_cases c l with h1 | ⟨a, b, rfl, h2⟩
      · exact .inl (by simp [h1, Ne.symm h])
      · exact .inr ⟨x :: a, b, rfl, by simp [h2, Ne.symm h]⟩
theorem index_no {c : UInt8} : ∀ {l : List UInt8}, c ∉ l → Lib.index l [c] = -1
  | [], _ => by simp [Lib.index]
  | x :: l, h => by
    simp only [List.mem_cons, not_or] at h
    have ih := index_no h.2
    rw [Lib.index]
    simp [List.isPrefixOf, h.1, ih]
theorem index_at {c : UInt8} (b : List UInt8) : ∀ {a : List UInt8}, c ∉ a → Lib.index (a ++ c :: b) [c] = a.length
  | [], _ => by
    show Lib.index (c :: b) [c] = _
    rw [Lib.index]; simp [List.isPrefixOf]
  | x :: a, h => by
    simp only [List.mem_cons, not_or] at h
    have ih := index_at b h.2
    show Lib.index (x :: (a ++ c :: b)) [c] = _
    rw [Lib.index, ih]
    simp [List.isPrefixOf, h.1]
theorem splitK_cut (c : UInt8) : ∀ (k : Nat) (l : List UInt8), Lib.count l [c] ≤ k → Lib.splitK [c] 0 k l = cutL c l
  | 0, l, h => by
    rcases first_cases c l with h1 | ⟨a, b, rfl, h2⟩
    · rw [cutL_none h1]; rfl
    · exfalso
      rw [Lib.count_one] at h
      simp at h
  | k + 1, l, h => by
    rcases first_cases c l with h1 | ⟨a, b, rfl, h2⟩
    · rw [cutL_none h1]
      unfold Lib.splitK
      rw [index_no h1]; rfl
    · rw [cutL_at b h2]
      unfold Lib.splitK
      rw [index_at b h2]
      have : ((a.length : Int) == -1) = false := by rw [beq_eq_false_iff_ne]; omega
      rw [this]
      simp only [Bool.false_eq_true, if_false, List.length_cons, List.length_nil]
      have e1 : (a ++ c :: b).take ((a.length : Int).toNat + 0) = a := by simp
      have e2 : (a ++ c :: b).drop ((a.length : Int).toNat + (0 + 1)) = b := by simp
      rw [e1, e2, splitK_cut c k b (by
        rw [Lib.count_one] at h ⊢
        rw [List.count_append, List.count_cons_self] at h; omega)]
theorem splitD_cut (l : List UInt8) (c : UInt8) : splitD l [c] = cutL c l := by
  unfold splitD
  rw [show (fun b : ByteArray => b.data.toList) = (·.data.toList) from rfl, Lib.splitB_data]
  exact splitK_cut c _ l (by
    have : Lib.countB (bs l) (bs [c]) = Lib.count l [c] := rfl
    omega)
theorem indexByte_no {c : UInt8} : ∀ {l : List UInt8}, c ∉ l → Lib.indexByte l c = -1
  | [], _ => rfl
  | x :: l, h => by
    simp only [List.mem_cons, not_or] at h
    have ih := indexByte_no h.2
    simp only [Lib.indexByte, ih]
    have : (x == c) = false := by rw [beq_eq_false_iff_ne]; exact fun e => h.1 e.symm
    simp [this]
theorem indexByte_at {c : UInt8} (b : List UInt8) : ∀ {a : List UInt8}, c ∉ a → Lib.indexByte (a ++ c :: b) c = a.length
  | [], _ => by simp [Lib.indexByte]
  | x :: a, h => by
    simp only [List.mem_cons, not_or] at h
    have ih := indexByte_at b h.2
    have : (x == c) = false := by rw [beq_eq_false_iff_ne]; exact fun e => h.1 e.symm
    show Lib.indexByte (x :: (a ++ c :: b)) c = _
    simp only [Lib.indexByte, ih, this]
    simp

/-- The number that a word is. -/
def numP (w : List UInt8) : Option Int := bif !atE w && itoa (atN w) == w && decide ((Lib.trimPrefix w [45]).length ≤ 8) then some (atN w) else none
theorem trim_itoa (n : Int) : Lib.trimPrefix (itoa n) [45] = decDigits n.natAbs := by
  unfold Lib.trimPrefix Lib.hasPrefix
  rcases itoa_cases n with ⟨_, e⟩ | ⟨_, e⟩ <;> rw [e]
  · simp [List.isPrefixOf]
  · cases hq : decDigits n.natAbs with
    | nil => exact absurd hq (dec_ne _)
    | cons b r =>
      have hb := dec_digit _ _ (Nat.le_refl n.natAbs) b (by rw [hq]; exact List.mem_cons_self)
      have : ((45 : UInt8) == b) = false := by rw [beq_eq_false_iff_ne]; rintro rfl; simp at hb
      simp [List.isPrefixOf, this]
theorem dig8 {u : Nat} (h : nDigits u ≤ 8) : u < 100000000 := by
  have h1 := Lib.lt_pow_nDigits u
  have h2 := Nat.pow_le_pow_right (n := 10) (by decide) h
  have e : (10 : Nat) ^ 8 = 100000000 := by decide
  omega
theorem dig8' {u : Nat} (h : u < 100000000) : nDigits u ≤ 8 := by
  have h := itoa_len8 (n := -(u : Int)) (by omega)
  by_cases h0 : u = 0
  · subst h0; rw [Lib.nDigits_small (by decide)]; omega
  · rcases itoa_cases (-(u : Int)) with ⟨_, e⟩ | ⟨h1, e⟩
    · rw [e, List.length_cons, Lib.decDigits_length, show (-(u : Int)).natAbs = u by omega] at h; omega
    · omega
theorem numP_iff {w : List UInt8} {n : Int} : numP w = some n ↔ n.natAbs < 100000000 ∧ itoa n = w := by
  unfold numP
  constructor
  · intro h
    cases hc : (!atE w && itoa (atN w) == w && decide ((Lib.trimPrefix w [45]).length ≤ 8)) with
    | false => rw [hc] at h; cases h
    | true =>
      rw [hc] at h
      simp only [cond_true, Option.some.injEq] at h
      subst h
      simp only [Bool.and_eq_true, beq_iff_eq, decide_eq_true_eq] at hc
      obtain ⟨⟨_, h2⟩, h3⟩ := hc
      refine ⟨dig8 ?_, h2⟩
      rw [← h2, trim_itoa, Lib.decDigits_length] at h3
      exact h3
  · rintro ⟨h, rfl⟩
    rw [atE_itoa h, atN_itoa h, trim_itoa, Lib.decDigits_length, show decide (nDigits n.natAbs ≤ 8) = true by simpa using dig8' h]
    simp
theorem numP_itoa {n : Int} (h : n.natAbs < 100000000) : numP (itoa n) = some n := numP_iff.2 ⟨h, rfl⟩

/-- The reference's number. -/
def fromR (w : List UInt8) : Nat := bif decide (0 < w.length) && w.getD 0 0 == 45 then 1 else 0
def numR (w : List UInt8) : Int × Bool :=
  bif decide (w.length < fromR w + 1) || decide (w.length > fromR w + 8) then (0, false)
  else match numF w w.length with
    | none => (0, false)
    | some (n, neg) => let m := bif neg then -n else n; (m, itoa m == w)
theorem numF_drop (w : List UInt8) : ∀ (i : Nat) (n : Int) (neg : Bool), numF w i = some (n, neg) → fromR w ≤ i → neg = (fromR w == 1) ∧ 0 ≤ n ∧ n < 10 ^ (i - fromR w)
  | 0, n, neg, h, hi => by
    simp only [numF, Option.some.injEq, Prod.mk.injEq] at h
    obtain ⟨rfl, rfl⟩ := h
    have : fromR w = 0 := by omega
    rw [this]; simp
  | i + 1, n, neg, h, hi => by
    simp only [numF] at h
    cases hp : numF w i with
    | none => rw [hp] at h; cases h
    | some p =>
      obtain ⟨m, ng⟩ := p
      rw [hp] at h
      simp only at h
      cases h1 : (i == 0 && w.getD i 0 == 45) with
      | true =>
        rw [h1] at h
        simp only [cond_true, Option.some.injEq, Prod.mk.injEq] at h
        obtain ⟨rfl, rfl⟩ := h
        simp only [Bool.and_eq_true, beq_iff_eq] at h1
        obtain ⟨rfl, h45⟩ := h1
        have hl : 0 < w.length := by
          rcases Nat.eq_zero_or_pos w.length with h0 | h0
          · have : w = [] := List.length_eq_zero_iff.1 h0
            subst this; simp at h45
          · exact h0
        have ef : fromR w = 1 := by unfold fromR; rw [h45]; simp [hl]
        have hm : m = 0 := by
          simp only [numF, Option.some.injEq, Prod.mk.injEq] at hp
          exact hp.1.symm
        subst hm
        rw [ef]; simp
      | false =>
        rw [h1] at h
        cases h2 : (decide ((w.getD i 0).toNat < 48) || decide ((w.getD i 0).toNat > 57)) with
        | true => rw [h2] at h; cases h
        | false =>
          rw [h2] at h
          simp only [cond_false, Option.some.injEq, Prod.mk.injEq] at h
          obtain ⟨rfl, rfl⟩ := h
          simp only [Bool.or_eq_false_iff, decide_eq_false_iff_not] at h2
          have hf : fromR w ≤ i := by
            rcases Nat.eq_zero_or_pos i with h0 | h0
            · subst h0
              have : (w.getD 0 0 == 45) = false := by simpa using h1
              unfold fromR; rw [this]; simp
            · have : fromR w ≤ 1 := by unfold fromR; cases (decide (0 < w.length) && w.getD 0 0 == 45) <;> simp
              omega
          obtain ⟨e1, e2, e3⟩ := numF_drop w i m ng hp hf
          refine ⟨e1, by omega, ?_⟩
          have : (10 : Int) ^ (i + 1 - fromR w) = 10 ^ (i - fromR w) * 10 := by
            rw [show i + 1 - fromR w = (i - fromR w) + 1 by omega]; exact Int.pow_succ 10 _
          omega
theorem pow8 {n : Int} {i : Nat} (h : n < 10 ^ i) (hi : i ≤ 8) : n < 100000000 := by
  have : (10 : Int) ^ i ≤ 10 ^ 8 := by
    have := Nat.pow_le_pow_right (n := 10) (by decide) hi
    exact_mod_cast this
  have e8 : (10 : Int) ^ 8 = 100000000 := by decide
  omega
theorem fromR_itoa (n : Int) : fromR (itoa n) = bif decide (n < 0) then 1 else 0 := by
  unfold fromR
  rcases itoa_cases n with ⟨h, e⟩ | ⟨h, e⟩
  · rw [e]; simp [h]
  · rw [e, show decide (n < 0) = false by simp; omega]
    cases hq : decDigits n.natAbs with
    | nil => exact absurd hq (dec_ne _)
    | cons b r =>
      have hb := dec_digit _ _ (Nat.le_refl n.natAbs) b (by rw [hq]; exact List.mem_cons_self)
      have : (b == (45 : UInt8)) = false := by rw [beq_eq_false_iff_ne]; rintro rfl; simp at hb
      simp [this]
theorem numR_eq (w : List UInt8) : (numR w).2 = (numP w).isSome ∧ ((numR w).2 = true → numP w = some (numR w).1) := by
  have key : (numR w).2 = true → numP w = some (numR w).1 := by
    unfold numR
    cases hc : (decide (w.length < fromR w + 1) || decide (w.length > fromR w + 8)) with
    | true => intro h; cases h
    | false =>
      simp only [cond_false]
      simp only [Bool.or_eq_false_iff, decide_eq_false_iff_not] at hc
      cases hp : numF w w.length with
      | none => intro h; cases h
      | some p =>
        obtain ⟨n, neg⟩ := p
        intro h
        obtain ⟨e1, e2, e3⟩ := numF_drop w _ n neg hp (by omega)
        have := pow8 e3 (by omega)
        refine numP_iff.2 ⟨?_, by simpa using h⟩
        cases neg <;> simp <;> omega
  refine ⟨?_, key⟩
  cases hr : (numR w).2 with
  | true => rw [key hr]; rfl
  | false =>
    cases hp : numP w with
    | none => rfl
    | some n =>
      exfalso
      obtain ⟨h1, rfl⟩ := numP_iff.1 hp
      have hv := numV_itoa h1
      have hd := dig8' h1
      unfold numR at hr
      rw [fromR_itoa] at hr
      unfold numV at hv
      have hl := itoa_len8 h1
      rw [show decide ((itoa n).length > 9) = false by simp; omega] at hv
      simp only [cond_false] at hv
      have hb : (decide ((itoa n).length < (bif decide (n < 0) then 1 else 0) + 1) || decide ((itoa n).length > (bif decide (n < 0) then 1 else 0) + 8)) = false := by
        have hpos := Lib.nDigits_pos n.natAbs
        rcases itoa_cases n with ⟨h, e⟩ | ⟨h, e⟩
        · rw [e, List.length_cons, Lib.decDigits_length]; simp [h]; omega
        · rw [e, Lib.decDigits_length, show decide (n < 0) = false by simp; omega]; simp; omega
      rw [hb] at hr
      simp only [cond_false] at hr
      cases hq : numF (itoa n) (itoa n).length with
      | none => rw [hq] at hv; cases hv
      | some p =>
        obtain ⟨m, neg⟩ := p
        rw [hq] at hv hr
        simp only at hv hr
        rw [Prod.mk.injEq] at hv
        rw [hv.2] at hr; cases hr
/-- The numbers that words are. -/
def numsP : List (List UInt8) → Option (List Int)
  | [] => some []
  | w :: t => match numP w, numsP t with
    | some n, some l => some (n :: l)
    | _, _ => none
theorem numsP_len : ∀ {ws : List (List UInt8)} {l : List Int}, numsP ws = some l → l.length = ws.length
  | [], l, h => by simp [numsP] at h; subst h; rfl
  | w :: t, l, h => by
    simp only [numsP] at h
    split at h
    · rename_i n l' h1 h2
      cases h
      rw [List.length_cons, List.length_cons, numsP_len h2]
    · cases h
theorem numsP_take {ws : List (List UInt8)} {l : List Int} (h : numsP ws = some l) : ∀ i, i ≤ ws.length → numsP (ws.take i) = some (l.take i) := by
  induction ws generalizing l with
  | nil => intro i _; simp [numsP] at h; subst h; simp [numsP]
  | cons w t ih =>
    intro i hi
    simp only [numsP] at h
    split at h
    · rename_i n l' h1 h2
      cases h
      match i with
      | 0 => simp [numsP]
      | i + 1 =>
        have := ih h2 i (by simpa using hi)
        simp [numsP, h1, this]
    · cases h
theorem numsP_snoc : ∀ {ws : List (List UInt8)} {l : List Int} {w : List UInt8} {n : Int}, numsP ws = some l → numP w = some n → numsP (ws ++ [w]) = some (l ++ [n])
  | [], l, w, n, h, hw => by simp [numsP] at h; subst h; simp [numsP, hw]
  | v :: t, l, w, n, h, hw => by
    simp only [numsP] at h
    split at h
    · rename_i m l' h1 h2
      cases h
      have := numsP_snoc h2 hw
      simp [numsP, h1, this]
    · cases h
theorem numsP_bad : ∀ {ws : List (List UInt8)} {w : List UInt8}, w ∈ ws → numP w = none → numsP ws = none
  | v :: t, w, hm, hw => by
    simp only [numsP]
    rcases List.mem_cons.1 hm with rfl | hm
    · rw [hw]
    · rw [numsP_bad hm hw]
      split
      · rename_i h1 h2; cases h2
      · rfl
theorem numsP_itoa : ∀ {l : List Int}, (∀ n ∈ l, n.natAbs < 100000000) → numsP (l.map itoa) = some l
  | [], _ => rfl
  | n :: l, h => by
    simp only [List.map_cons, numsP, numP_itoa (h n List.mem_cons_self), numsP_itoa fun m hm => h m (List.mem_cons_of_mem _ hm)]
end Go.Ch

set_option linter.unusedVariables false
/- strings.Builder in this seat: copyCheck, WriteString, String. -/
namespace Go.Proofs
open Go.RowKit Go.Lib


set_option maxHeartbeats 1000000 in
set_option maxRecDepth 100000 in
/-- String of a builder that holds bytes: it freezes them. -/
theorem Tryz.String_row {T : TypeId} (b g cap : Nat) (p : Value) (cur : Array Value) (l : List UInt8) (w : World) (hbk : w.heap[b]? = some (.cells #[p, .slice (some ⟨g, 0, none⟩) l.length cap] T (0, 0))) (h0 : l ≠ []) (hg : w.heap[g]? = some (.cells cur 5 (0, 0)))
    (hnc : l.length ≤ cap) (hcm : cap ≤ maxLen) (hcs : cur.size = cap) (hcur : ∀ (j : Nat) (x : UInt8), l[j]? = some x → cur[j]? = some (Value.int .u8 x.toNat)) :
    Calls Tryz.prog 45 #[.pointer (some ⟨b, 0, none⟩)] w fun e w' => e = .returned (.string ⟨l.toArray⟩) ∧ w' = w.drew.freeze ⟨g, 0, none⟩ l.length := by
  have hl0 : l.length ≠ 0 := by simpa using h0
  have c1 : w.drew.cell? ⟨b, 1, none⟩ = some (.slice (some ⟨g, 0, none⟩) l.length cap) := by
    have : w.drew.heap[b]? = some (.cells #[p, .slice (some ⟨g, 0, none⟩) l.length cap] T (0, 0)) := hbk
    rw [Lib.cell_of_heap this]; rfl
  have hSD : (Builtin.unsafeSliceData_ #[93] 138 #[.slice (some ⟨g, 0, none⟩) l.length cap]).run Tryz.prog w.drew = .ok (.pointer (some ⟨g, 0, none⟩)) w.drew :=
    Lib.run_unsafeSliceData_row _ _ _ _ _ _ (by omega)
  have hUS : (Builtin.unsafeString_ #[138, 3] 9 #[.pointer (some ⟨g, 0, none⟩), .int .i64 l.length]).run Tryz.prog w.drew = .ok (.string ⟨l.toArray⟩) (w.drew.freeze ⟨g, 0, none⟩ l.length) := by
    refine Lib.run_unsafeString_row w.drew 138 3 9 5 Tryz.underlying138 (by kernel_rfl) g cur.size (by have hg' : w.drew.heap[g]? = some (.cells cur 5 (0, 0)) := hg; simp [World.shape?, hg']) l h0 (by omega) (by unfold maxLen at hcm; omega) ?_
    intro j x hx
    have hg' : w.drew.heap[g]? = some (.cells cur 5 (0, 0)) := hg
    have := hcur j x hx
    have ea : (⟨g, 0, none⟩ : Addr).add j = ⟨g, j, none⟩ := by unfold Addr.add; split <;> simp_all
    rw [ea]; simp [World.cell?, hg', this]
  have t72 := Tryz.underlying95; have a72 := Tryz.isAgg95; have z72 := Tryz.sizeOf95; have v72 := Tryz.zeroValue95
  have t70 := Tryz.underlying92; have a70 := Tryz.isAgg92; have z70 := Tryz.sizeOf92; have v70 := Tryz.zeroValue92
  have t37 := Tryz.underlying93; have a37 := Tryz.isAgg93; have z37 := Tryz.sizeOf93; have v37 := Tryz.zeroValue93
  have t127 := Tryz.underlying138; have a127 := Tryz.isAgg138; have z127 := Tryz.sizeOf138
  have t3 := Tryz.underlying3; have a3 := Tryz.isAgg3; have z3 := Tryz.sizeOf3
  have t9 := Tryz.underlying9; have a9 := Tryz.isAgg9; have z9 := Tryz.sizeOf9
  have t5 := Tryz.underlying5; have a5 := Tryz.isAgg5; have z5 := Tryz.sizeOf5
  have mixed : Tryz.prog.follows .mixedOrders = true := by kernel_rfl
  go_enter Tryz.func45, Tryz.ntmps45
  go_wp2
  go_region_o
  all_goals (go_wp2; go_ret; exact ⟨rfl, rfl⟩)
end Go.Proofs

set_option linter.unusedVariables false
/- strings.Builder in this seat: copyCheck, WriteString, String. -/
namespace Go.Proofs
open Go.RowKit Go.Lib

set_option maxHeartbeats 1000000 in
set_option maxRecDepth 100000 in
theorem Tryz.copyCheck_used (b : Nat) (w : World) (h0 : w.cell? ⟨b, 0, none⟩ = some (.pointer (some ⟨b, 0, none⟩))) :
    Calls Tryz.prog 106 #[.pointer (some ⟨b, 0, none⟩)] w fun e w' => e = .returned (.tuple #[]) ∧ w' = w := by
  obtain ⟨j, hj⟩ : ∃ j, Tryz.prog.info? 95 = some j := ⟨Tryz.t95, by kernel_rfl⟩
  have t72 := Tryz.underlying95; have a72 := Tryz.isAgg95; have z72 := Tryz.sizeOf95; have v72 := Tryz.zeroValue95; skip
  have t70 := Tryz.underlying92; have a70 := Tryz.isAgg92; have z70 := Tryz.sizeOf92; have v70 := Tryz.zeroValue92
  have t9 := Tryz.underlying9; have a9 := Tryz.isAgg9; have z9 := Tryz.sizeOf9
  have t4 := Tryz.underlying4; have a4 := Tryz.isAgg4; have z4 := Tryz.sizeOf4
  go_enter Tryz.func106, Tryz.ntmps106
  go_wp2
  rw [Lib.run_neq_ptr_same w _ Tryz.underlying92 hj]
  go_wp2
  go_end0
  exact ⟨rfl, rfl⟩

set_option maxHeartbeats 1000000 in
set_option maxRecDepth 100000 in
theorem Tryz.copyCheck_fresh (b : Nat) (w : World) (h0 : w.cell? ⟨b, 0, none⟩ = some (.pointer none)) (hsh : w.shape? b = some (95, 2)) (hfz : w.frozen? ⟨b, 0, none⟩ = false) :
    Calls Tryz.prog 106 #[.pointer (some ⟨b, 0, none⟩)] w fun e w' => e = .returned (.tuple #[]) ∧ w' = w.setCell ⟨b, 0, none⟩ (.pointer (some ⟨b, 0, none⟩)) := by
  obtain ⟨j, hj, hjs⟩ : ∃ j, Tryz.prog.info? 95 = some j ∧ j.size = 2 := ⟨Tryz.t95, by kernel_rfl, rfl⟩
  have t72 := Tryz.underlying95; have a72 := Tryz.isAgg95; have z72 := Tryz.sizeOf95; have v72 := Tryz.zeroValue95
  have t70 := Tryz.underlying92; have a70 := Tryz.isAgg92; have z70 := Tryz.sizeOf92; have v70 := Tryz.zeroValue92
  have t9 := Tryz.underlying9; have a9 := Tryz.isAgg9; have z9 := Tryz.sizeOf9
  have t4 := Tryz.underlying4; have a4 := Tryz.isAgg4; have z4 := Tryz.sizeOf4
  have t164 := Tryz.underlying189; have a164 := Tryz.isAgg189; have z164 := Tryz.sizeOf189
  go_enter Tryz.func106, Tryz.ntmps106
  go_wp2
  rw [Lib.run_to_unsafe w ⟨b, 0, none⟩ Tryz.underlying92 Tryz.underlying189 hj (by rw [hjs]; decide) hsh (Nat.zero_lt_succ 1)]
  simp only [Result.andThen]
  rw [Oper.upon_value]
  go_wp2
  rw [run_callFunc_extern Tryz.func133 (by kernel_rfl) (by kernel_rfl) (by kernel_rfl) (e := Extern.AbiNoEscape.same) (by kernel_rfl)]
  rw [Lib.run_noEscape]
  simp only [Result.andThen]
  rw [Oper.upon_value]
  go_wp2
  rw [Lib.run_from_unsafe w ⟨b, 0, none⟩ Tryz.underlying189 Tryz.underlying92 hj hsh (by kernel_rfl)]
  simp only [Result.andThen]
  rw [Oper.upon_value]
  go_wp2
  go_end0
  exact ⟨rfl, rfl⟩

section
variable {P : Program} {w : World}
theorem Tryz.run_app (t u ty e : TypeId) (i : TypeInfo) (ht : P.underlying t = some (.slice e)) (hu : P.underlying u = some .string) (hi : P.info? e = some i) (hz : i.zero = some (.int .u8 0))
    (hsize : i.size = 1) (hby : i.bytes = 1) (v : Value) (n : Nat) (xs : List Value) (hown : w.ownsRow 0 e 1 v n xs) (s : ByteArray) (h63 : n + s.size ≤ maxLen) (hbytes : n + s.size ≤ 140737488355328) :
    ∃ v' w', (Builtin.append_ #[t, u] ty #[v, .string s]).run P w = .ok v' w' ∧ w'.ownsRow 0 e 1 v' (n + s.size) (xs ++ strCells s) ∧ w.grownBy w' v.ownBlock ∧
      ∀ g, v'.ownBlock = some g → v.ownBlock = some g ∨ w.heap.size ≤ g := by
  obtain ⟨v', w', hr, h1, h2, h3⟩ := Lib.run_append_own_string (P := P) w 0 t u ty e i ht hu hi hz hsize hby v n xs hown s h63 hbytes (Nat.zero_le _)
  refine ⟨v', w', hr, h1, h2, fun g hg => ?_⟩
  have hsmall : n + s.size ≤ 9223372036854775807 := by simp only [maxLen] at h63; omega
  have hxl : xs.length = n := by simpa using hown.1
  rcases hown.2 with ⟨rfl, rfl⟩ | ⟨b, cap, cur, rfl, hbg, hgb, hnc, hcm, hcs, htake⟩
  · by_cases hm : s.size = 0
    · rw [h3.2 ⟨rfl, hm⟩] at hg; cases hg
    · have hr2 := run_append_nil_string (P := P) w t u ty e i (.int .u8 0) ht hu hi hz s (by omega) (by omega) (by rw [hby]; omega)
      rw [hr] at hr2
      injection hr2 with q1 q2
      rw [q1] at hg
      simp only [Value.ownBlock, Option.some.injEq] at hg
      exact .inr (by omega)
  · by_cases hroom : n + s.size ≤ cap
    · have hcs' : cur.size = cap := by simpa using hcs
      have hr2 := Lib.run_append_room_string (P := P) w t u ty e i ht hu hi hsize b n cap cur hgb s hroom (by omega)
      rw [hr] at hr2
      injection hr2 with q1 q2
      rw [q1] at hg
      exact .inl hg
    · have holds : ∀ j u, xs[j]? = some u → w.cell? ((⟨b, 0, none⟩ : Addr).add j) = some u := hown.cells (g := b) rfl
      have hr2 := Lib.run_append_grow_string (P := P) w t u ty e i (.int .u8 0) ht hu hi hz ⟨b, 0, none⟩ n cap xs (by rw [hsize]; simpa using hxl) holds s (by omega) (by omega) (by rw [hby]; exact growslice_fits (by omega) (by omega))
      rw [hr] at hr2
      injection hr2 with q1 q2
      rw [q1] at hg
      simp only [Value.ownBlock, Option.some.injEq] at hg
      exact .inr (by omega)
theorem Tryz.wpList_app {ops : Array Oper} {rest : List Oper} {o : Oper} {a : Act} {Q : Exit → Act → World → Prop} (hgd : o.guard = none) (sl x : Operand) (t u : TypeId)
    (ho : o.op = .call { callee := .builtin .append, args := #[sl, x], argTypes := #[t, u] })
    (e : TypeId) (i : TypeInfo) (ht : P.underlying t = some (.slice e)) (hu : P.underlying u = some .string) (hi : P.info? e = some i) (hz : i.zero = some (.int .u8 0))
    (hsize : i.size = 1) (hby : i.bytes = 1)
    (v : Value) (n : Nat) (xs : List Value) (hs : a.eval sl = v) (hown : w.ownsRow 0 e 1 v n xs) (s : ByteArray) (hx : a.eval x = .string s)
    (h63 : n + s.size ≤ maxLen) (hbytes : n + s.size ≤ 140737488355328)
    (h : ∀ v' w', w'.ownsRow 0 e 1 v' (n + s.size) (xs ++ strCells s) → w.grownBy w' v.ownBlock → (∀ g, v'.ownBlock = some g → v.ownBlock = some g ∨ w.heap.size ≤ g) → wpList P ops Q rest (a.put o.dst v') w') : wpList P ops Q (o :: rest) a w := by
  refine wpList_plain hgd fun K hK => ?_
  obtain ⟨v', w', hr, h2, h3, h4⟩ := Tryz.run_app (P := P) (w := w) t u o.type e i ht hu hi hz hsize hby v n xs hown s h63 hbytes
  unfold Oper.wp execOp
  simp only [ho, resolve, invoke, builtin, Sem.run_bind, Sem.run_pure, Result.andThen_ok, List.map_toArray, List.map_cons, List.map_nil, hs, hx, hr]
  exact hK _ _ (h v' w' h2 h3 h4)
end

set_option maxHeartbeats 2000000 in
set_option maxRecDepth 100000 in
/-- WriteString at a used builder: its row grows; nothing else turns. -/
theorem Tryz.WriteString_used {T : TypeId} (b : Nat) (v : Value) (bs : List Value) (s : ByteArray) (w : World) (hbk : w.heap[b]? = some (.cells #[.pointer (some ⟨b, 0, none⟩), v] T (0, 0))) (hown : w.ownsRow 0 5 1 v bs.length bs) (hne : v.ownBlock ≠ some b)
    (hlen : bs.length + s.size ≤ 140737488355328) :
    Calls Tryz.prog 73 #[.pointer (some ⟨b, 0, none⟩), .string s] w fun e w' => e = .returned (.tuple #[.int .i64 s.size, .nilIface]) ∧ ∃ v' w2, w' = w2.setCell ⟨b, 1, none⟩ v' ∧ w2.ownsRow 0 5 1 v' (bs.length + s.size) (bs ++ Lib.strCells s) ∧ w.grownBy w2 v.ownBlock ∧ w2.heap[b]? = w.heap[b]? ∧ ∀ g, v'.ownBlock = some g → v.ownBlock = some g ∨ w.heap.size ≤ g := by
  obtain ⟨i0, hi, hz0, hz1, hz2⟩ : ∃ i, Tryz.prog.info? 5 = some i ∧ i.zero = some (.int .u8 0) ∧ i.size = 1 ∧ i.bytes = 1 := ⟨Tryz.t5, by kernel_rfl, rfl, rfl, rfl⟩
  have t72 := Tryz.underlying95; have a72 := Tryz.isAgg95; have z72 := Tryz.sizeOf95; have v72 := Tryz.zeroValue95
  have t70 := Tryz.underlying92; have a70 := Tryz.isAgg92; have z70 := Tryz.sizeOf92; have v70 := Tryz.zeroValue92
  have t37 := Tryz.underlying93; have a37 := Tryz.isAgg93; have z37 := Tryz.sizeOf93; have v37 := Tryz.zeroValue93
  have t3 := Tryz.underlying3; have a3 := Tryz.isAgg3; have z3 := Tryz.sizeOf3
  have t9 := Tryz.underlying9; have a9 := Tryz.isAgg9; have z9 := Tryz.sizeOf9
  have t5 := Tryz.underlying5; have a5 := Tryz.isAgg5; have z5 := Tryz.sizeOf5
  have e240 : ∀ args w, (callFunc 106 args).run Tryz.prog w = .ok (.enter 106 args) w := Tryz.call106
  have c0 : w.cell? ⟨b, 0, none⟩ = some (.pointer (some ⟨b, 0, none⟩)) := by rw [Lib.cell_of_heap hbk]; rfl
  have c1 : w.cell? ⟨b, 1, none⟩ = some v := by rw [Lib.cell_of_heap hbk]; rfl
  go_enter Tryz.func73, Tryz.ntmps73
  go_wp2_with (go_at_fn 106; refine (Tryz.copyCheck_used b _ c0).mono ?_)
  rintro e w1 ⟨rfl, rfl⟩
  go_wp2_with (at_builtin; refine Tryz.wpList_app rfl _ _ 93 9 rfl 5 i0 Tryz.underlying93 Tryz.underlying9 hi hz0 hz1 hz2 _ _ _ rfl hown s rfl ?c3 ?c4 ?_)
  case c3 => unfold maxLen; omega
  case c4 => omega
  intro v' w2 hown' hgrow hnew
  have hlt : b < w1.heap.size := by
    rcases Nat.lt_or_ge b w1.heap.size with h' | h'
    · exact h'
    · simp [Array.getElem?_eq_none h'] at hbk
  have hbb : w2.heap[b]? = w1.heap[b]? := hgrow.block b hlt (fun e => hne e.symm)
  have hb2 := hbb.trans hbk
  have d0 : w2.cell? ⟨b, 0, none⟩ = some (.pointer (some ⟨b, 0, none⟩)) := by rw [Lib.cell_of_heap hb2]; rfl
  have d1 : w2.cell? ⟨b, 1, none⟩ = some v := by rw [Lib.cell_of_heap hb2]; rfl
  have f1 : w2.frozen? ⟨b, 1, none⟩ = false := Lib.frozen_of_heap hb2 1
  obtain ⟨ao, n', cap, rfl⟩ : ∃ ao n' cap, v' = .slice ao n' cap := by
    rcases hown'.2 with ⟨hv, _⟩ | ⟨g, cap, cur, hv, _⟩
    · exact ⟨_, _, _, hv⟩
    · exact ⟨_, _, _, hv⟩
  go_wp2
  go_ret2
  exact ⟨rfl, _, w2, rfl, hown', hgrow, hbb, hnew⟩
end Go.Proofs

set_option linter.unusedVariables false
/- strings.Builder in this seat: copyCheck, WriteString, String. -/
namespace Go.Proofs
open Go.RowKit Go.Lib

structure Tryz.Hold (p : Prop) : Prop where
  out : p
set_option maxHeartbeats 2000000 in
set_option maxRecDepth 100000 in
/-- WriteString at a fresh builder. -/
theorem Tryz.WriteString_fresh (b : Nat) (s : ByteArray) (w : World) (hbk : w.heap[b]? = some (.cells #[.pointer none, .slice none 0 0] 95 (0, 0))) (hlen : s.size ≤ 140737488355328) :
    Calls Tryz.prog 73 #[.pointer (some ⟨b, 0, none⟩), .string s] w fun e w' => e = .returned (.tuple #[.int .i64 s.size, .nilIface]) ∧ ∃ v' w2, w' = w2.setCell ⟨b, 1, none⟩ v' ∧ w2.ownsRow 0 5 1 v' s.size (Lib.strCells s) ∧ (w.setCell ⟨b, 0, none⟩ (.pointer (some ⟨b, 0, none⟩))).grownBy w2 none ∧ w2.heap[b]? = some (.cells #[.pointer (some ⟨b, 0, none⟩), .slice none 0 0] 95 (0, 0)) ∧ ∀ g, v'.ownBlock = some g → w.heap.size ≤ g := by
  obtain ⟨i0, hi, hz0, hz1, hz2⟩ : ∃ i, Tryz.prog.info? 5 = some i ∧ i.zero = some (.int .u8 0) ∧ i.size = 1 ∧ i.bytes = 1 := ⟨Tryz.t5, by kernel_rfl, rfl, rfl, rfl⟩
  have t72 := Tryz.underlying95; have a72 := Tryz.isAgg95; have z72 := Tryz.sizeOf95; have v72 := Tryz.zeroValue95
  have t70 := Tryz.underlying92; have a70 := Tryz.isAgg92; have z70 := Tryz.sizeOf92; have v70 := Tryz.zeroValue92
  have t37 := Tryz.underlying93; have a37 := Tryz.isAgg93; have z37 := Tryz.sizeOf93; have v37 := Tryz.zeroValue93
  have t3 := Tryz.underlying3; have a3 := Tryz.isAgg3; have z3 := Tryz.sizeOf3
  have t9 := Tryz.underlying9; have a9 := Tryz.isAgg9; have z9 := Tryz.sizeOf9
  have t5 := Tryz.underlying5; have a5 := Tryz.isAgg5; have z5 := Tryz.sizeOf5
  have e240 : ∀ args w, (callFunc 106 args).run Tryz.prog w = .ok (.enter 106 args) w := Tryz.call106
  have c0 : w.cell? ⟨b, 0, none⟩ = some (.pointer none) := by rw [Lib.cell_of_heap hbk]; rfl
  have hsh : w.shape? b = some (95, 2) := by simp [World.shape?, hbk]
  have hfz : w.frozen? ⟨b, 0, none⟩ = false := Lib.frozen_of_heap hbk 0
  go_enter Tryz.func73, Tryz.ntmps73
  go_wp2_with (go_at_fn 106; refine (Tryz.copyCheck_fresh b _ c0 hsh hfz).mono ?_)
  rintro e w1 ⟨rfl, hw1⟩
  have hb1 : w1.heap[b]? = some (.cells #[.pointer (some ⟨b, 0, none⟩), .slice none 0 0] 95 (0, 0)) := by rw [hw1]; simp [World.setCell, Array.getElem?_modify, hbk]
  have hs1 : w1.heap.size = w.heap.size := by rw [hw1]; simp [World.setCell]
  have c1 : w1.cell? ⟨b, 1, none⟩ = some (.slice none 0 0) := by rw [Lib.cell_of_heap hb1]; rfl
  have HW : Tryz.Hold (w1 = w.setCell ⟨b, 0, none⟩ (.pointer (some ⟨b, 0, none⟩))) := ⟨hw1⟩
  clear hw1 c0 hsh hfz hbk
  have HS : Tryz.Hold (w1.heap.size = w.heap.size) := ⟨hs1⟩
  clear hs1
  have c00 : w1.cell? ⟨b, 0, none⟩ = some (.pointer (some ⟨b, 0, none⟩)) := by rw [Lib.cell_of_heap hb1]; rfl
  go_wp2_with (at_builtin; refine Tryz.wpList_app rfl _ _ 93 9 rfl 5 i0 Tryz.underlying93 Tryz.underlying9 hi hz0 hz1 hz2 _ _ _ rfl (World.ownsRow_nil w1 0 5 1) s rfl ?c3 ?c4 ?_)
  case c3 => unfold maxLen; omega
  case c4 => omega
  intro v' w2 hown' hgrow hnew
  have hlt : b < w1.heap.size := by
    rcases Nat.lt_or_ge b w1.heap.size with h' | h'
    · exact h'
    · simp [Array.getElem?_eq_none h'] at hb1
  have hbb : w2.heap[b]? = w1.heap[b]? := hgrow.block b hlt (fun e => by cases e)
  have hb2 := hbb.trans hb1
  have d0 : w2.cell? ⟨b, 0, none⟩ = some (.pointer (some ⟨b, 0, none⟩)) := by rw [Lib.cell_of_heap hb2]; rfl
  have d1 : w2.cell? ⟨b, 1, none⟩ = some (.slice none 0 0) := by rw [Lib.cell_of_heap hb2]; rfl
  have f1 : w2.frozen? ⟨b, 1, none⟩ = false := Lib.frozen_of_heap hb2 1
  obtain ⟨ao, n', cap, rfl⟩ : ∃ ao n' cap, v' = .slice ao n' cap := by
    rcases hown'.2 with ⟨hv, _⟩ | ⟨g, cap, cur, hv, _⟩
    · exact ⟨_, _, _, hv⟩
    · exact ⟨_, _, _, hv⟩
  go_wp2
  go_ret2
  exact ⟨rfl, _, w2, rfl, by simpa using hown', HW.out ▸ hgrow, hb2, fun g hg => (hnew g hg).elim (fun e => by cases e) (fun e => by have := HS.out; omega)⟩
end Go.Proofs

/- strings.Builder as contracts: WriteString, String. -/
namespace Go.Ch
open Go Go.Ax Go.Proofs Go.Proofs.Tryz Go.RowKit
set_option maxRecDepth 100000

def byteF (l : List UInt8) : Nat → Nat → DV := fun i _ => .val (.int .u8 ((l.getD i 0).toNat : Int))
/-- A builder that has been written to: two boxes. -/
abbrev bld (x : Nat) (l : List UInt8) : List (Nat × Box) := [(0, .cells [.ptr 0 0, .own x]), (x, .row 5 l.length 1 (byteF l))]
abbrev rWS (s : List UInt8) : AV := .t [.s (.d (.val (.int .i64 s.length))), .s (.d (.val .nilIface))]
def cellsOf (l : List UInt8) : List Value := l.map fun b => .int .u8 (b.toNat : Int)
theorem strCells_bs (l : List UInt8) : Lib.strCells (bs l) = cellsOf l := by
  simp [Lib.strCells, bs, cellsOf]
theorem cellsOf_app (a b : List UInt8) : cellsOf a ++ cellsOf b = cellsOf (a ++ b) := by simp [cellsOf]

theorem own_row {w2 : World} {v' : Value} {l : List UInt8} (hown : w2.ownsRow 0 5 1 v' l.length (cellsOf l)) (hl : l ≠ []) :
    ∃ g cap cur, v' = .slice (some ⟨g, 0, none⟩) l.length cap ∧ w2.heap[g]? = some (.cells cur 5 (0, 0)) ∧ l.length ≤ cap ∧ cap ≤ maxLen ∧ cur.size = cap * 1 ∧ ∀ (j : Nat) (x : UInt8), l[j]? = some x → cur[j]? = some (Value.int .u8 (x.toNat : Int)) := by
  rcases hown.2 with ⟨_, h0⟩ | ⟨g, cap, cur, hv, _, hg, hn, hc, hs, ht⟩
  · exact absurd (List.length_eq_zero_iff.1 h0) hl
  · refine ⟨g, cap, cur, hv, hg, hn, hc, hs, fun j x hx => ?_⟩
    have h1 : (cellsOf l)[j]? = some (.int .u8 (x.toNat : Int)) := by simp [cellsOf, hx]
    rw [← ht] at h1
    have hj : j < l.length := (List.getElem?_eq_some_iff.1 hx).1
    rw [List.getElem?_take_of_lt (by omega)] at h1
    simpa using h1

theorem WS_fin {M : Mem} {β : Nm} {w w2 : World} {b : Nat} {c : Nat × Nat} {T : TypeId} {vo v' : Value} {l : List UInt8} (hl : l ≠ []) (hM : MemOK M w) (eb : β 0 = some (b, c)) (hb : b < w.heap.size) (ha : ∀ o, M b o = none)
    (G : Nat → Prop) (hG : ∀ g, G g → (∃ y c, β y = some (g, c)) ∧ ∀ o, M g o = none) (hfr : ∀ k, k < w.heap.size → k ≠ b → ¬ G k → w2.heap[k]? = w.heap[k]?) (h2 : β 2 = none)
    (hb2 : w2.heap[b]? = some (.cells #[.pointer (some ⟨b, 0, none⟩), vo] T (0, 0))) (hown : w2.ownsRow 0 5 1 v' l.length (cellsOf l)) (hnew : ∀ g, v'.ownBlock = some g → (G g ∧ g ≠ b) ∨ w.heap.size ≤ g)
    (ho : w2.os = w.os) (ht : w2.tape = w.tape) (hou : w2.output = w.output) (hsz : w.heap.size ≤ w2.heap.size) :
    ∃ M' β', Nm.le β β' ∧ Grow w.heap.size M M' ∧ MemOK M' (w2.setCell ⟨b, 1, none⟩ v') ∧ BoxesOK M' β' (w2.setCell ⟨b, 1, none⟩ v') (bld 2 l) ∧
      (∀ x k c, x ∈ names (bld 2 l) → β' x = some (k, c) → w.heap.size ≤ k ∨ ∃ y c', β y = some (k, c')) ∧
      (w2.setCell ⟨b, 1, none⟩ v').os = w.os ∧ (w2.setCell ⟨b, 1, none⟩ v').tape = w.tape ∧ (w2.setCell ⟨b, 1, none⟩ v').output = w.output ∧ w.heap.size ≤ (w2.setCell ⟨b, 1, none⟩ v').heap.size ∧
      (∀ k, k < w.heap.size → (∀ y c, β y ≠ some (k, c)) → (w2.setCell ⟨b, 1, none⟩ v').heap[k]? = w.heap[k]?) := by
  obtain ⟨g, cap, cur, rfl, hg, hn, hc, hs, hcur⟩ := own_row hown hl
  have hgn := hnew g rfl
  have hgb : g ≠ b := by
    rcases hgn with ⟨_, h⟩ | h
    · exact h
    · omega
  have hoth : ∀ k, k ≠ b → (w2.setCell ⟨b, 1, none⟩ (.slice (some ⟨g, 0, none⟩) l.length cap)).heap[k]? = w2.heap[k]? := fun k hk => Below.heap_setCell _ _ _ _ hk
  have hbb : (w2.setCell ⟨b, 1, none⟩ (.slice (some ⟨g, 0, none⟩) l.length cap)).heap[b]? = some (.cells #[.pointer (some ⟨b, 0, none⟩), .slice (some ⟨g, 0, none⟩) l.length cap] T (0, 0)) := by
    simp [World.setCell, Array.getElem?_modify, hb2]
  let β' : Nm := fun x => if x = 2 then some (g, (cap, l.length)) else β x
  have e2 : β' 2 = some (g, (cap, l.length)) := by simp [β']
  have e0 : β' 0 = some (b, c) := by simp [β', eb]
  refine ⟨M, β', ?_, Grow.refl _ _, ?_, ⟨?_, ?_, ?_, ?_⟩, ?_, ho, ht, hou, ?_, ?_⟩
  · intro x p e
    by_cases hx : x = 2
    · subst hx; rw [h2] at e; cases e
    · simp [β', hx, e]
  · intro k o u e
    have hc0 := hM k o u e
    have hk : k < w.heap.size := by
      rcases Nat.lt_or_ge k w.heap.size with h' | h'
      · exact h'
      · simp [World.cell?, Array.getElem?_eq_none h'] at hc0
    have hkb : k ≠ b := fun h => by rw [h, ha] at e; cases e
    have hkG : ¬ G k := fun h => by rw [(hG k h).2] at e; cases e
    have hh := (hoth k hkb).trans (hfr k hk hkb hkG)
    simp only [World.cell?, hh] at hc0 ⊢
    exact hc0
  · intro x hx
    simp only [names, List.mem_cons, List.not_mem_nil, or_false] at hx
    rcases hx with rfl | rfl
    · exact ⟨_, _, e0⟩
    · exact ⟨_, _, e2⟩
  · intro x bx hx
    simp only [List.mem_cons, Prod.mk.injEq, List.not_mem_nil, or_false] at hx
    rcases hx with ⟨rfl, rfl⟩ | ⟨rfl, rfl⟩
    · exact ⟨b, c, [_, _], T, e0, hbb, ⟨b, c, e0, rfl⟩, ⟨g, _, e2, rfl, hn⟩, trivial⟩
    · refine ⟨g, _, cur, e2, (hoth g hgb).trans hg, rfl, hs, hn, hc, fun i j hi hj => ?_⟩
      obtain rfl : j = 0 := by omega
      refine ⟨_, ?_, rfl⟩
      simpa [List.getD, hi] using hcur i l[i] (by simp [hi])
  · intro x y k c1 c2 hx hy e1 e3
    simp only [names, List.mem_cons, List.not_mem_nil, or_false] at hx hy
    rcases hx with rfl | rfl <;> rcases hy with rfl | rfl
    · rfl
    · rw [e0] at e1; rw [e2] at e3; cases e1; cases e3; exact absurd rfl hgb
    · rw [e2] at e1; rw [e0] at e3; cases e1; cases e3; exact absurd rfl hgb
    · rfl
  · intro x k c1 hx e o
    simp only [names, List.mem_cons, List.not_mem_nil, or_false] at hx
    rcases hx with rfl | rfl
    · rw [e0] at e; cases e; exact ha o
    · rw [e2] at e; cases e
      rcases hgn with ⟨h, _⟩ | h
      · exact (hG g h).2 o
      · cases hq : M g o with
        | none => rfl
        | some u =>
          have := hM g o u hq
          simp [World.cell?, Array.getElem?_eq_none h] at this
  · intro x k c1 hx e
    simp only [names, List.mem_cons, List.not_mem_nil, or_false] at hx
    rcases hx with rfl | rfl
    · rw [e0] at e; cases e; exact .inr ⟨0, c, eb⟩
    · rw [e2] at e; cases e
      rcases hgn with ⟨h, _⟩ | h
      · exact .inr (hG g h).1
      · exact .inl h
  · simp [World.setCell]; exact hsz
  · intro k hk hno
    have hkb : k ≠ b := fun h => hno 0 c (by rw [h]; exact eb)
    have hkG : ¬ G k := fun h => by obtain ⟨y, c1, e⟩ := (hG k h).1; exact hno y c1 e
    exact (hoth k hkb).trans (hfr k hk hkb hkG)

theorem WS_used (l s : List UInt8) (hl : l ≠ []) (hlen : l.length + s.length ≤ 140737488355328) :
    CallR Tryz.prog 73 [.s (.ptr 0 0), vT s] (bld 1 l) (rWS s) (bld 2 (l ++ s)) := by
  refine ⟨Tryz.call73, fun M β w vs _ hr hM hbx hkeys => ?_⟩
  match vs, hr with
  | [v1, v2], ⟨⟨b, c, eb, hv1⟩, h2, _⟩ =>
    obtain rfl : v2 = .string (bs s) := h2
    subst hv1
    obtain ⟨b', c', cs, T, eb', hbk, hrl⟩ := hbx.rep 0 _ (List.mem_cons_self)
    rw [eb] at eb'; cases eb'
    obtain ⟨g, c1, cur, eg, hg, hgn, hgs, hgc, hgm, hcells⟩ := hbx.rep 1 (.row 5 l.length 1 (byteF l)) (by simp)
    match cs, hrl with
    | [x0, x1], ⟨⟨q0, q1, e0, hx0⟩, ⟨g', c1', eg', hx1, hle⟩, _⟩ =>
      rw [eb] at e0; cases e0
      rw [eg] at eg'; cases eg'
      subst hx0; subst hx1
      have hbg : g ≠ b := fun e => by
        subst e
        have := hbx.inj 0 1 g c c1 (by simp [names]) (by simp [names]) eb eg
        cases this
      have hown : w.ownsRow 0 5 1 (.slice (some ⟨g, 0, none⟩) c1.2 c1.1) (cellsOf l).length (cellsOf l) := by
        refine ⟨by simp, .inr ⟨g, c1.1, cur, by simp [cellsOf, hgn], Nat.zero_le _, hg, by simp [cellsOf]; omega, hgm, hgs, ?_⟩⟩
        apply List.ext_getElem?
        intro j
        by_cases hj : j < l.length
        · obtain ⟨u, hu, hru⟩ := hcells j 0 hj (by omega)
          have hru' : u = .int .u8 ((l.getD j 0).toNat : Int) := hru
          rw [List.getElem?_take_of_lt (by simp [cellsOf]; omega)]
          have : cur.toList[j]? = some u := by simpa using hu
          rw [this, hru']
          simp [cellsOf, hj, List.getD]
        · rw [List.getElem?_take_eq_none (by simp [cellsOf]; omega), List.getElem?_eq_none (by simp [cellsOf]; omega)]
      have hwr := Tryz.WriteString_used b _ (cellsOf l) (bs s) w hbk hown (by simp [Value.ownBlock]; exact hbg) (by rw [bs_size]; simpa [cellsOf] using hlen)
      refine hwr.mono ?_
      rintro e w' ⟨rfl, v', w2, rfl, ho2, hgr, hb2, hnew⟩
      have hbl : b < w.heap.size := (Array.getElem?_eq_some_iff.1 hbk).1
      have h2n : β 2 = none := by
        cases h : β 2 with
        | none => rfl
        | some p => have := hkeys 2 p h; simp [names] at this
      obtain ⟨M', β', r1, r2, r3, r4, r5, r6⟩ := WS_fin (l := l ++ s) (v' := v') (w2 := w2) (by simp [hl]) hM eb hbl (hbx.apart 0 b c (by simp [names]) eb) (fun k => k = g) (fun k hk => by subst hk; exact ⟨⟨1, c1, eg⟩, hbx.apart 1 _ c1 (by simp [names]) eg⟩)
        (fun k hk _ hkg => hgr.block k hk (by simp [Value.ownBlock]; exact hkg)) h2n (hb2.trans hbk) (by
          have := ho2
          rw [strCells_bs, cellsOf_app, bs_size] at this
          simpa [cellsOf] using this) (fun k hk => (hnew k hk).imp (fun e => by simp [Value.ownBlock] at e; subst e; exact ⟨rfl, hbg⟩) id) hgr.os hgr.tape hgr.output hgr.size
      exact ⟨_, M', β', rfl, r1, ⟨[_, _], by rw [bs_size], rfl, rfl, trivial⟩, r2, r3, r4, r5, r6⟩

theorem WS_fresh (s : List UInt8) (hs : s ≠ []) (hlen : s.length ≤ 140737488355328) :
    CallR Tryz.prog 73 [.s (.ptr 0 0), vT s] [(0, .fresh 95 [.pointer none, .slice none 0 0])] (rWS s) (bld 2 s) := by
  refine ⟨Tryz.call73, fun M β w vs _ hr hM hbx hkeys => ?_⟩
  match vs, hr with
  | [v1, v2], ⟨⟨b, c, eb, hv1⟩, h2, _⟩ =>
    obtain rfl : v2 = .string (bs s) := h2
    subst hv1
    obtain ⟨b', c', eb', hbk⟩ := hbx.rep 0 _ (List.mem_cons_self)
    rw [eb] at eb'; cases eb'
    refine (Tryz.WriteString_fresh b (bs s) w hbk (by rw [bs_size]; exact hlen)).mono ?_
    rintro e w' ⟨rfl, v', w2, rfl, ho2, hgr, hb2, hnew⟩
    have hbl : b < w.heap.size := (Array.getElem?_eq_some_iff.1 hbk).1
    have h2n : β 2 = none := by
      cases h : β 2 with
      | none => rfl
      | some p => have := hkeys 2 p h; simp [names] at this
    have hs1 : (w.setCell ⟨b, 0, none⟩ (.pointer (some ⟨b, 0, none⟩))).heap.size = w.heap.size := by simp [World.setCell]
    obtain ⟨M', β', r1, r2, r3, r4, r5, r6⟩ := WS_fin (l := s) (v' := v') (w2 := w2) hs hM eb hbl (hbx.apart 0 b c (by simp [names]) eb) (fun _ => False) (fun _ h => h.elim)
      (fun k hk hkb _ => (hgr.block k (by rw [hs1]; exact hk) (by simp)).trans (Below.heap_setCell _ _ _ _ hkb)) h2n hb2 (by
        have := ho2
        rw [strCells_bs, bs_size] at this
        exact this) (fun k hk => .inr (hnew k hk)) hgr.os hgr.tape hgr.output (by have := hgr.size; omega)
    exact ⟨_, M', β', rfl, r1, ⟨[_, _], by rw [bs_size], rfl, rfl, trivial⟩, r2, r3, r4, r5, r6⟩

theorem BString (l : List UInt8) (hl : l ≠ []) : CallR Tryz.prog 45 [.s (.ptr 0 0)] (bld 1 l) (vT l) [] := by
  refine ⟨Tryz.call45, fun M β w vs _ hr hM hbx hkeys => ?_⟩
  match vs, hr with
  | [v1], ⟨⟨b, c, eb, hv1⟩, _⟩ =>
    subst hv1
    obtain ⟨b', c', cs, T, eb', hbk, hrl⟩ := hbx.rep 0 _ (List.mem_cons_self)
    rw [eb] at eb'; cases eb'
    obtain ⟨g, c1, cur, eg, hg, hgn, hgs, hgc, hgm, hcells⟩ := hbx.rep 1 (.row 5 l.length 1 (byteF l)) (by simp)
    match cs, hrl with
    | [x0, x1], ⟨⟨q0, q1, e0, hx0⟩, ⟨g', c1', eg', hx1, hle⟩, _⟩ =>
      rw [eb] at e0; cases e0
      rw [eg] at eg'; cases eg'
      subst hx0; subst hx1
      rw [hgn] at hbk
      refine (Tryz.String_row b g c1.1 _ cur l w hbk hl hg hgc hgm (by omega) ?_).mono ?_
      · intro j x hx
        have hj : j < l.length := (List.getElem?_eq_some_iff.1 hx).1
        obtain ⟨u, hu, hru⟩ := hcells j 0 hj (by omega)
        have hru' : u = .int .u8 ((l.getD j 0).toNat : Int) := hru
        have hx' : l.getD j 0 = x := by simp [List.getD, hx]
        rw [hx'] at hru'
        rw [← hru']; simpa using hu
      rintro e w' ⟨rfl, rfl⟩
      have hoth : ∀ k, k ≠ g → (w.drew.freeze ⟨g, 0, none⟩ l.length).heap[k]? = w.heap[k]? := fun k hk => by
        have hl0 : ¬ l.length = 0 := by simpa using hl
        simp only [World.freeze, World.drew, if_neg hl0]
        rw [Array.getElem?_modify, if_neg (fun e => hk e.symm)]
      have hfz : (w.drew.freeze ⟨g, 0, none⟩ l.length).os = w.os ∧ (w.drew.freeze ⟨g, 0, none⟩ l.length).tape = w.tape ∧ (w.drew.freeze ⟨g, 0, none⟩ l.length).output = w.output := by
        unfold World.freeze
        split <;> exact ⟨rfl, rfl, rfl⟩
      refine ⟨_, M, β, rfl, Nm.le_refl _, rfl, Grow.refl _ _, ?_, ⟨fun x hx => (by cases hx), fun x b hx => (by cases hx), fun x y b c c' hx => (by cases hx), fun x b c hx => (by cases hx)⟩, fun x b c hx => (by cases hx), hfz.1, hfz.2.1, hfz.2.2, ?_, ?_⟩
      · intro k o u e
        have hkg : k ≠ g := fun h => by rw [h, hbx.apart 1 g c1 (by simp [names]) eg] at e; cases e
        have hc0 := hM k o u e
        simp only [World.cell?, hoth k hkg] at hc0 ⊢
        exact hc0
      · have hl0 : ¬ l.length = 0 := by simpa using hl
        unfold World.freeze
        rw [if_neg hl0]
        simp
      · intro k hk hno
        exact hoth k (fun h => hno 1 c1 (by rw [h]; exact eg))
end Go.Ch

/- strings.Lines, and channel.numbers. -/
namespace Go.Ch
open Go Go.Ax Go.Proofs Go.Proofs.Tryz
set_option maxRecDepth 100000
set_option pp.maxSteps 400
set_option maxHeartbeats 1000000

theorem Lines (s : List UInt8) : CallR Tryz.prog 50 [vT s] [] (.s (.clo 90 [.ptr 1 0])) [(1, .cells [.d (dT s)])] := by
  refine callO_of_ex (rc := []) (N := 4) Tryz.func50 rfl rfl Tryz.call50 tab_ok mix rfl rfl rfl rfl (fun cx href => ?_)
  exact ⟨LeQ.rfl, rfl, trivial⟩

theorem atN_bound (l : List UInt8) : -9223372036854775808 ≤ atN l ∧ atN l ≤ 9223372036854775807 := by
  unfold atN
  cases h : Lib.atoiAll l with
  | ok v => exact Lib.atoiAll_bounds h
  | range => simp only [Lib.atoiSat]; split <;> omega
  | _ => simp
def numsL (ws : List (List UInt8)) : List Int := (numsP ws).getD []
theorem numbers (ws : List (List UInt8)) (h1 : ws.length ≤ 1000000) (h2 : ∀ w ∈ ws, w.length ≤ 1000000) : CallP Tryz.prog 94 [.s (.d (dTs ws))] (.t [.s (.d (dInts (numsL ws))), .s (.d (.val (.bool (numsP ws).isSome)))]) := by
  refine callP_of_ex (rc := []) (N := 40) Tryz.func94 rfl rfl Tryz.call94 tab_ok mix rfl rfl (fun cx href => ?_)
  refine AW.loopI (fun q : Nat × List Int => ⟨[(4, .s (.mo q.2.isEmpty 100)), (9, .s (.d (dTs ws))), (10, vI ws.length), (11, vI q.1)], [(100, some (.mrow 3 q.2.length 1 (intEl q.2)))]⟩)
    (fun q => q.1 ≤ ws.length ∧ numsP (ws.take q.1) = some q.2) (fun q => ws.length - q.1) (0, []) ⟨Nat.zero_le _, by simp [numsP]⟩ ?_ ?_
  · exact SubI.of0 href [] rfl ⟨⟨rfl, rfl⟩, trivial⟩ ⟨⟨rfl, LeQ.nil rfl⟩, ⟨rfl, LeQ.rfl⟩, ⟨rfl, LeQ.rfl⟩, ⟨rfl, LeQ.rfl⟩, trivial⟩
  · rintro ⟨i, L⟩ ⟨hi, hn⟩
    have hL := numsP_len hn
    simp only [List.length_take] at hL
    refine ex.sound (rc := []) tab_ok mix href _ ?_
    refine And.intro (fun h => ?_) (fun h => ?_)
    · have h : (i : Int) < (ws.length : Int) := decT h
      have hi' : i < ws.length := by omega
      refine oi (show 0 ≤ (i : Int) ∧ (i : Int) < (ws.length : Int) by omega) ?_
      have hw : (ws.getD i []).length ≤ 1000000 := by
        rw [List.getD_eq_getElem?_getD, List.getElem?_eq_getElem hi']
        exact h2 _ (List.getElem_mem hi')
      refine callN (Atoi (ws.getD i []) (by omega)) ?_
      repeat first | refine sk ?_ | refine st ?_ | refine sg ?_ | refine sh ?_ | refine su ?_ | refine sn1 ?_ | refine sn0 ?_ | refine And.intro (show imp none (gimp _ none) from trivial) ?_
      intro b hb
      repeat first | refine sk ?_ | refine st ?_ | refine sg ?_ | refine sh ?_ | refine su ?_ | refine sn1 ?_ | refine sn0 ?_ | refine And.intro (show imp none (gimp _ none) from trivial) ?_
      refine callG (Itoa (atN (ws.getD i [])) ?_ ?_) ?_
      rotate_left 2
      repeat first | refine sk ?_ | refine st ?_ | refine sg ?_ | refine sh ?_ | refine su ?_ | refine sn1 ?_ | refine sn0 ?_ | refine And.intro (show imp none (gimp _ none) from trivial) ?_
      refine callG (TrimPrefix (ws.getD i []) [45]) ?_
      repeat first | refine sk ?_ | refine st ?_ | refine sg ?_ | refine sh ?_ | refine su ?_ | refine sn1 ?_ | refine sn0 ?_ | refine And.intro (show imp none (gimp _ none) from trivial) ?_
      have hx : ∀ b', ((b || !((bs (Lib.itoa (atN (ws.getD i [])))).toList == (bs (ws.getD i [])).toList)) || decide (((bs (Lib.trimPrefix (ws.getD i []) [45])).size : Int) > 8)) = b' → numP (ws.getD i []) = bif b' then none else some (atN (ws.getD i [])) := by
        intro b' h3
        have eb : b = atE (ws.getD i []) := by
          cases hq : b with
          | true => cases hz : atE (ws.getD i []) with
            | true => rfl
            | false => have := hb (by rw [hz, hq]; rfl); cases this
          | false => cases hz : atE (ws.getD i []) with
            | false => rfl
            | true => have := hb (by rw [hz, hq]; rfl); cases this
        rw [bs_toList, bs_toList, bs_size, eb] at h3
        unfold numP
        have e : (!atE (ws.getD i []) && Lib.itoa (atN (ws.getD i [])) == ws.getD i [] && decide ((Lib.trimPrefix (ws.getD i []) [45]).length ≤ 8)) = !b' := by
          rw [← h3]
          have : decide (((Lib.trimPrefix (ws.getD i []) [45]).length : Int) > 8) = !decide ((Lib.trimPrefix (ws.getD i []) [45]).length ≤ 8) := by
            rw [← decide_not]; exact decide_eq_decide.2 (by omega)
          rw [this]
          cases atE (ws.getD i []) <;> cases Lib.itoa (atN (ws.getD i [])) == ws.getD i [] <;> simp
        rw [e]
        cases b' <;> rfl
      refine And.intro (fun h3 => ?_) (fun h3 => ?_)
      · have hp := hx true h3
        have hm : ws.getD i [] ∈ ws := by
          rw [List.getD_eq_getElem?_getD, List.getElem?_eq_getElem hi']; exact List.getElem_mem hi'
        have hn0 := numsP_bad hm hp
        unfold numsL
        rw [hn0]
        exact SubR.t ⟨LeD.nil, LeD.refl _, trivial⟩
      · have hp := hx false h3
        refine ob Nat.zero_lt_one ?_
        refine ob (show ((bif L.isEmpty then 0 else L.length) + 1) * 8 ≤ 140737488355328 by rw [bif_len]; omega) ?_
        refine ob (fit1 (lt1 rfl)) ?_
        refine ⟨(i + 1, L ++ [atN (ws.getD i [])]), ⟨by simp only; omega, ?_⟩, by simp only; omega, ?_⟩
        · simp only
          rw [List.take_succ_eq_append_getElem hi']
          refine numsP_snoc hn ?_
          rw [show ws[i] = ws.getD i [] by rw [List.getD_eq_getElem?_getD, List.getElem?_eq_getElem hi']; rfl]
          exact hp
        · exact SubI.of0 href [(100, 37)] rfl ⟨⟨rfl, RowIs.mrow (el := fun x _ => dI x) (RowIs.snoc intRow (lt1 rfl))⟩, trivial⟩ ⟨⟨rfl, LeQ.mo (isEmpty_snoc _ _)⟩, ⟨rfl, LeQ.rfl⟩, ⟨rfl, LeQ.rfl⟩, ⟨rfl, LeQ.int (w64_of (by simp only; omega) (by simp only; omega))⟩, trivial⟩
      · exact (atN_bound _).1
      · exact (atN_bound _).2
    · have h : ¬ (i : Int) < (ws.length : Int) := decF h
      obtain rfl : i = ws.length := by omega
      rw [List.take_length] at hn
      unfold numsL
      rw [hn]
      refine SubR.t ⟨LeD.slc' (bif_len _) fun _ _ _ _ => LeD.refl _, LeD.refl _, trivial⟩
end Go.Ch

/- bed.printed: the text of a grid. -/
namespace Go.Ch
open Go Go.Ax Go.Proofs Go.Proofs.Tryz
set_option maxRecDepth 100000
set_option pp.maxSteps 400
set_option maxHeartbeats 1000000

theorem hd_small {g : Grid} (v : GVal g) {i : Nat} (h : i < 5) : ((hd g).getD i 0).natAbs < 100000000 := by
  have hs := v.small
  match i, h with
  | 0, _ => exact hs _ (by simp [hd])
  | 1, _ => exact hs _ (by simp [hd])
  | 2, _ => exact hs _ (by simp [hd])
  | 3, _ => exact hs _ (by simp [hd])
  | 4, _ => exact hs _ (by simp [hd])
theorem headT_len {g : Grid} (v : GVal g) : ∀ k, k ≤ 5 → (headT g k).length ≤ 4 + 10 * k
  | 0, _ => by simp [headT, gridW]
  | k + 1, h => by
    have := headT_len v k (by omega)
    have := itoa_len8 (hd_small v (show k < 5 by omega))
    rw [headT_succ g (by omega), List.length_append, List.length_cons]
    omega
theorem wrd_len {n : Int} (h : n.natAbs < 100000000) : (wrd n).length ≤ 9 := by
  unfold wrd
  cases n == 30000
  · exact itoa_len8 h
  · exact Nat.le_of_ble_eq_true rfl
theorem lev_small {g : Grid} (v : GVal g) {i : Nat} (h : i < g.levels.length) : (g.levels.getD i 0).natAbs < 100000000 := by
  rw [List.getD_eq_getElem?_getD, List.getElem?_eq_getElem h]
  exact v.lev8 _ (List.getElem_mem h)
theorem bodyT_len {g : Grid} (v : GVal g) : ∀ k, k ≤ g.levels.length → (bodyT g k).length ≤ 10 * k
  | 0, _ => by simp [bodyT]
  | k + 1, h => by
    have := bodyT_len v k (by omega)
    have := wrd_len (lev_small v (show k < g.levels.length by omega))
    simp only [bodyT, List.length_append, List.length_cons, List.length_nil]
    omega
def midT (g : Grid) (i : Nat) : List UInt8 := headT g 5 ++ [10] ++ bodyT g i
theorem midT_ne (g : Grid) (k : Nat) : midT g k ≠ [] := by simp [midT]
theorem midT_len {g : Grid} (v : GVal g) {k : Nat} (h : k ≤ g.levels.length) : (midT g k).length ≤ 55 + 10 * k := by
  have := headT_len v 5 (Nat.le_refl _)
  have := bodyT_len v k h
  simp only [midT, List.length_append, List.length_cons, List.length_nil]
  omega
theorem midT_succ (g : Grid) (k : Nat) : midT g (k + 1) = midT g k ++ wrd (g.levels.getD k 0) ++ [sepT g k] := by
  simp [midT, bodyT]
theorem gridW_ne' : gridW ≠ [] := by simp [gridW]
theorem Printed (g : Grid) (v : GVal g) : CallP Tryz.prog 28 [grid g] (vT (textG g)) := by
  have hn := v.n
  refine callP_of_ex (rc := [73, 45]) (N := 56) Tryz.func28 rfl rfl Tryz.call28 tab_ok mix rfl rfl (fun cx href => ?_)
  refine ⟨[(0, 3), (2, 100)], _, _, _, _, WS_fresh gridW (by simp [gridW]) (by simp [gridW]), rfl, ⟨rfl, trivial⟩, rfl, ?_⟩
  refine AW.loopI (fun i : Nat => ⟨[(1, .s (.ptr 1 0)), (3, .s (.ptr 3 0)), (19, .g [.d (dI g.x), .d (dI g.y), .d (dI g.side), .d (dI g.cols), .d (dI g.rows)]), (20, vI i)],
      [(1, some (.cells [.d (dI g.x), .d (dI g.y), .d (dI g.side), .d (dI g.cols), .d (dI g.rows), .d (dInts g.levels)])), (3, some (.cells [.ptr 3 0, .own 100])), (100, some (.row 5 (headT g i).length 1 (byteF (headT g i))))]⟩)
    (fun i => i ≤ 5) (fun i => 5 - i) 0 (Nat.zero_le _) ?_ ?_
  · exact SubI.of0 href [] rfl ⟨⟨rfl, LeBx.rfl⟩, ⟨rfl, LeBx.rfl⟩, ⟨rfl, LeBx.rfl⟩, trivial⟩ ⟨⟨rfl, LeQ.rfl⟩, ⟨rfl, LeQ.rfl⟩, ⟨rfl, LeQ.rfl⟩, ⟨rfl, LeQ.rfl⟩, trivial⟩
  · intro i hi
    refine AW.seq (ex.sound (rc := [73, 45]) tab_ok mix href _ ?_)
    refine AW.seq (ex.sound (rc := [73, 45]) tab_ok mix href _ ?_)
    refine And.intro (fun h => ?_) (fun h => ?_)
    · have h : (i : Int) < 5 := decT h
      have hi' : i < 5 := by omega
      have hs := hd_small v hi'
      have hl := itoa_len8 hs
      have hh := headT_len v i (by omega)
      refine AW.seq (AW.block (AW.cut (σ' := ⟨[(1, .s (.ptr 1 0)), (3, .s (.ptr 3 0)), (5, vI ((hd g).getD i 0)), (19, .g [.d (dI g.x), .d (dI g.y), .d (dI g.side), .d (dI g.cols), .d (dI g.rows)]), (20, vI i)],
        [(1, some (.cells [.d (dI g.x), .d (dI g.y), .d (dI g.side), .d (dI g.cols), .d (dI g.rows), .d (dInts g.levels)])), (3, some (.cells [.ptr 3 0, .own 100])), (100, some (.row 5 (headT g i).length 1 (byteF (headT g i))))]⟩) ?_ ?_))
      · match i, hi' with
        | 0, _ =>
          refine ex.sound (rc := [73, 45]) tab_ok mix href _ ?_
          refine oi ⟨by decide, by decide⟩ ?_
          exact ⟨rfl, SubI.of0 href [] rfl ⟨⟨rfl, LeBx.rfl⟩, ⟨rfl, LeBx.rfl⟩, ⟨rfl, LeBx.rfl⟩, trivial⟩ ⟨⟨rfl, LeQ.rfl⟩, ⟨rfl, LeQ.rfl⟩, ⟨rfl, LeQ.rfl⟩, ⟨rfl, LeQ.rfl⟩, ⟨rfl, LeQ.rfl⟩, trivial⟩⟩
        | 1, _ =>
          refine ex.sound (rc := [73, 45]) tab_ok mix href _ ?_
          refine oi ⟨by decide, by decide⟩ ?_
          exact ⟨rfl, SubI.of0 href [] rfl ⟨⟨rfl, LeBx.rfl⟩, ⟨rfl, LeBx.rfl⟩, ⟨rfl, LeBx.rfl⟩, trivial⟩ ⟨⟨rfl, LeQ.rfl⟩, ⟨rfl, LeQ.rfl⟩, ⟨rfl, LeQ.rfl⟩, ⟨rfl, LeQ.rfl⟩, ⟨rfl, LeQ.rfl⟩, trivial⟩⟩
        | 2, _ =>
          refine ex.sound (rc := [73, 45]) tab_ok mix href _ ?_
          refine oi ⟨by decide, by decide⟩ ?_
          exact ⟨rfl, SubI.of0 href [] rfl ⟨⟨rfl, LeBx.rfl⟩, ⟨rfl, LeBx.rfl⟩, ⟨rfl, LeBx.rfl⟩, trivial⟩ ⟨⟨rfl, LeQ.rfl⟩, ⟨rfl, LeQ.rfl⟩, ⟨rfl, LeQ.rfl⟩, ⟨rfl, LeQ.rfl⟩, ⟨rfl, LeQ.rfl⟩, trivial⟩⟩
        | 3, _ =>
          refine ex.sound (rc := [73, 45]) tab_ok mix href _ ?_
          refine oi ⟨by decide, by decide⟩ ?_
          exact ⟨rfl, SubI.of0 href [] rfl ⟨⟨rfl, LeBx.rfl⟩, ⟨rfl, LeBx.rfl⟩, ⟨rfl, LeBx.rfl⟩, trivial⟩ ⟨⟨rfl, LeQ.rfl⟩, ⟨rfl, LeQ.rfl⟩, ⟨rfl, LeQ.rfl⟩, ⟨rfl, LeQ.rfl⟩, ⟨rfl, LeQ.rfl⟩, trivial⟩⟩
        | 4, _ =>
          refine ex.sound (rc := [73, 45]) tab_ok mix href _ ?_
          refine oi ⟨by decide, by decide⟩ ?_
          exact ⟨rfl, SubI.of0 href [] rfl ⟨⟨rfl, LeBx.rfl⟩, ⟨rfl, LeBx.rfl⟩, ⟨rfl, LeBx.rfl⟩, trivial⟩ ⟨⟨rfl, LeQ.rfl⟩, ⟨rfl, LeQ.rfl⟩, ⟨rfl, LeQ.rfl⟩, ⟨rfl, LeQ.rfl⟩, ⟨rfl, LeQ.rfl⟩, trivial⟩⟩
      refine ex.sound (rc := [73, 45]) tab_ok mix href _ ?_
      refine callN (Itoa _ (by omega) (by omega)) ?_
      refine oi (show (bs [32]).size + (bs (Lib.itoa ((hd g).getD i 0))).size ≤ 9223372036854775807 by rw [bs_size, bs_size]; simp only [List.length_cons, List.length_nil]; omega) ?_
      refine ⟨[(0, 3), (1, 100), (2, 101)], _, _, _, _, WS_used (headT g i) (32 :: Lib.itoa ((hd g).getD i 0)) (headT_ne g i) (by simp only [List.length_cons]; omega), congrArg (fun q => [AV.s (SV.ptr 3 0), AV.s (SV.d (DV.val (Value.string q)))]) (bs_add [32] (Lib.itoa ((hd g).getD i 0))), ⟨rfl, rfl, trivial⟩, rfl, ?_⟩
      refine ex.sound (rc := [73, 45]) tab_ok mix href _ ?_
      refine ⟨i + 1, by omega, by omega, SubI.of0 href [(100, 101)] rfl ⟨⟨rfl, LeBx.rfl⟩, ⟨rfl, LeBx.rfl⟩, ⟨rfl, ?_⟩, trivial⟩ ⟨⟨rfl, LeQ.rfl⟩, ⟨rfl, LeQ.rfl⟩, ⟨rfl, LeQ.rfl⟩, ⟨rfl, LeQ.int (w64_of (by omega) (by omega))⟩, trivial⟩⟩
      exact LeBx.of_eq (by rw [headT_succ g hi']; rfl)
    · have h : ¬ (i : Int) < 5 := decF h
      obtain rfl : i = 5 := by omega
      have hh := headT_len v 5 (Nat.le_refl _)
      refine ⟨[(0, 3), (1, 100), (2, 101)], _, _, _, _, WS_used (headT g 5) [10] (headT_ne g 5) (by simp; omega), rfl, ⟨rfl, rfl, trivial⟩, rfl, ?_⟩
      refine AW.loopI (fun i : Nat => ⟨[(1, .s (.ptr 1 0)), (3, .s (.ptr 3 0)), (30, vInts g.levels), (31, vI g.levels.length), (32, vI i)],
          [(1, some (.cells [.d (dI g.x), .d (dI g.y), .d (dI g.side), .d (dI g.cols), .d (dI g.rows), .d (dInts g.levels)])), (3, some (.cells [.ptr 3 0, .own 100])), (100, some (.row 5 (midT g i).length 1 (byteF (midT g i))))]⟩)
        (fun i => i ≤ g.levels.length) (fun i => g.levels.length - i) 0 (Nat.zero_le _) ?_ ?_
      · exact SubI.of0 href [(100, 101)] rfl ⟨⟨rfl, LeBx.rfl⟩, ⟨rfl, LeBx.rfl⟩, ⟨rfl, LeBx.of_eq (by rw [show midT g 0 = headT g 5 ++ [10] by simp [midT, bodyT]]; rfl)⟩, trivial⟩ ⟨⟨rfl, LeQ.rfl⟩, ⟨rfl, LeQ.rfl⟩, ⟨rfl, LeQ.rfl⟩, ⟨rfl, LeQ.rfl⟩, ⟨rfl, LeQ.rfl⟩, trivial⟩
      · intro i hi
        have hm := midT_len v hi
        refine ex.sound (rc := [73, 45]) tab_ok mix href _ ?_
        refine And.intro (fun h => ?_) (fun h => ?_)
        · have h : (i : Int) < g.levels.length := decT h
          have hi' : i < g.levels.length := by omega
          have hs := lev_small v hi'
          have hw := itoa_len8 hs
          have hc := v.cols
          have ec : w64 (g.cols - 1) = g.cols - 1 := w64_of (by omega) (by omega)
          refine oi ⟨by omega, by omega⟩ ?_
          refine callN (bknown g i (by omega) (by omega)) ?_
          refine And.intro (fun h2 => ?_) (fun h2 => ?_)
          · have h2 : (g.levels.getD i 0 != 30000) = true := h2
            have ew : wrd (g.levels.getD i 0) = Lib.itoa (g.levels.getD i 0) := by
              unfold wrd
              rw [show (g.levels.getD i 0 == 30000) = false by simpa using h2]; rfl
            refine callN (Itoa (g.levels.getD i 0) (by omega) (by omega)) ?_
            refine ⟨[(0, 3), (1, 100), (2, 101)], _, _, _, _, WS_used (midT g i) (Lib.itoa (g.levels.getD i 0)) (midT_ne g i) (by omega), rfl, ⟨rfl, rfl, trivial⟩, rfl, ?_⟩
            refine oi (show g.cols ≠ 0 by omega) ?_
            refine And.intro (by kernel_rfl) ?_
            refine And.intro (fun h3 => ?_) (fun h3 => ?_)
            · have h3 : ((i : Int).tmod g.cols == w64 (g.cols - 1)) = true := h3
              have es : sepT g i = 10 := by rw [ec] at h3; unfold sepT; rw [h3]; rfl
              refine ⟨[(0, 3), (1, 101), (2, 102)], _, _, _, _, WS_used (midT g i ++ Lib.itoa (g.levels.getD i 0)) [10] (by simp [midT]) (by simp only [List.length_append, List.length_cons, List.length_nil]; omega), rfl, ⟨rfl, rfl, trivial⟩, rfl, ?_⟩
              refine ⟨i + 1, by omega, by omega, SubI.of0 href [(100, 102)] rfl ⟨⟨rfl, LeBx.rfl⟩, ⟨rfl, LeBx.rfl⟩, ⟨rfl, ?_⟩, trivial⟩ ⟨⟨rfl, LeQ.rfl⟩, ⟨rfl, LeQ.rfl⟩, ⟨rfl, LeQ.rfl⟩, ⟨rfl, LeQ.rfl⟩, ⟨rfl, LeQ.int (w64_of (by omega) (by omega))⟩, trivial⟩⟩
              exact LeBx.of_eq (by rw [midT_succ, ew, es]; rfl)
            · have h3 : ((i : Int).tmod g.cols == w64 (g.cols - 1)) = false := h3
              have es : sepT g i = 32 := by rw [ec] at h3; unfold sepT; rw [h3]; rfl
              refine ⟨[(0, 3), (1, 101), (2, 102)], _, _, _, _, WS_used (midT g i ++ Lib.itoa (g.levels.getD i 0)) [32] (by simp [midT]) (by simp only [List.length_append, List.length_cons, List.length_nil]; omega), rfl, ⟨rfl, rfl, trivial⟩, rfl, ?_⟩
              refine ⟨i + 1, by omega, by omega, SubI.of0 href [(100, 102)] rfl ⟨⟨rfl, LeBx.rfl⟩, ⟨rfl, LeBx.rfl⟩, ⟨rfl, ?_⟩, trivial⟩ ⟨⟨rfl, LeQ.rfl⟩, ⟨rfl, LeQ.rfl⟩, ⟨rfl, LeQ.rfl⟩, ⟨rfl, LeQ.rfl⟩, ⟨rfl, LeQ.int (w64_of (by omega) (by omega))⟩, trivial⟩⟩
              exact LeBx.of_eq (by rw [midT_succ, ew, es]; rfl)
          · have h2 : (g.levels.getD i 0 != 30000) = false := h2
            have ew : wrd (g.levels.getD i 0) = [45] := by
              unfold wrd
              rw [show (g.levels.getD i 0 == 30000) = true by simpa using h2]; rfl
            refine ⟨[(0, 3), (1, 100), (2, 101)], _, _, _, _, WS_used (midT g i) ([45]) (midT_ne g i) (by simp only [List.length_cons, List.length_nil]; omega), rfl, ⟨rfl, rfl, trivial⟩, rfl, ?_⟩
            refine oi (show g.cols ≠ 0 by omega) ?_
            refine And.intro (by kernel_rfl) ?_
            refine And.intro (fun h3 => ?_) (fun h3 => ?_)
            · have h3 : ((i : Int).tmod g.cols == w64 (g.cols - 1)) = true := h3
              have es : sepT g i = 10 := by rw [ec] at h3; unfold sepT; rw [h3]; rfl
              refine ⟨[(0, 3), (1, 101), (2, 102)], _, _, _, _, WS_used (midT g i ++ [45]) [10] (by simp [midT]) (by simp only [List.length_append, List.length_cons, List.length_nil]; omega), rfl, ⟨rfl, rfl, trivial⟩, rfl, ?_⟩
              refine ⟨i + 1, by omega, by omega, SubI.of0 href [(100, 102)] rfl ⟨⟨rfl, LeBx.rfl⟩, ⟨rfl, LeBx.rfl⟩, ⟨rfl, ?_⟩, trivial⟩ ⟨⟨rfl, LeQ.rfl⟩, ⟨rfl, LeQ.rfl⟩, ⟨rfl, LeQ.rfl⟩, ⟨rfl, LeQ.rfl⟩, ⟨rfl, LeQ.int (w64_of (by omega) (by omega))⟩, trivial⟩⟩
              exact LeBx.of_eq (by rw [midT_succ, ew, es]; rfl)
            · have h3 : ((i : Int).tmod g.cols == w64 (g.cols - 1)) = false := h3
              have es : sepT g i = 32 := by rw [ec] at h3; unfold sepT; rw [h3]; rfl
              refine ⟨[(0, 3), (1, 101), (2, 102)], _, _, _, _, WS_used (midT g i ++ [45]) [32] (by simp [midT]) (by simp only [List.length_append, List.length_cons, List.length_nil]; omega), rfl, ⟨rfl, rfl, trivial⟩, rfl, ?_⟩
              refine ⟨i + 1, by omega, by omega, SubI.of0 href [(100, 102)] rfl ⟨⟨rfl, LeBx.rfl⟩, ⟨rfl, LeBx.rfl⟩, ⟨rfl, ?_⟩, trivial⟩ ⟨⟨rfl, LeQ.rfl⟩, ⟨rfl, LeQ.rfl⟩, ⟨rfl, LeQ.rfl⟩, ⟨rfl, LeQ.rfl⟩, ⟨rfl, LeQ.int (w64_of (by omega) (by omega))⟩, trivial⟩⟩
              exact LeBx.of_eq (by rw [midT_succ, ew, es]; rfl)
        · have h : ¬ (i : Int) < g.levels.length := decF h
          obtain rfl : i = g.levels.length := by omega
          refine ⟨[(0, 3), (1, 100)], _, _, _, _, BString (midT g g.levels.length) (midT_ne g _), rfl, ⟨rfl, rfl, trivial⟩, rfl, ?_⟩
          exact SubR.refl _
end Go.Ch

/- The reference's Cut and number. -/
namespace Go.Ch
open Go Go.Ax Go.Proofs Go.Proofs.Tryz
set_option maxRecDepth 100000
set_option pp.maxSteps 400
set_option maxHeartbeats 1000000

abbrev vY (b : UInt8) : AV := .s (.d (.val (.int .u8 (b.toNat : Int))))
theorem bs_get (l : List UInt8) (i : Nat) : (bs l)[i]! = l.getD i 0 := by
  by_cases h : i < l.length
  · rw [getElem!_pos (bs l) i (by rw [bs_size]; exact h)]
    show l.toArray[i] = _
    simp [List.getD, h]
  · rw [getElem!_neg (bs l) i (by rw [bs_size]; exact h)]
    rw [List.getD_eq_getElem?_getD, List.getElem?_eq_none (by omega)]; rfl
theorem u8_eq (a b : UInt8) : (((a.toNat : Int)) == (b.toNat : Int)) = (a == b) := by
  rw [Bool.eq_iff_iff, beq_iff_eq, beq_iff_eq]
  constructor
  · intro h; exact UInt8.toNat_inj.1 (by omega)
  · rintro rfl; rfl
def txtEl (w : List UInt8) (_ : Nat) : DV := dT w
theorem take_succ_getD (l : List UInt8) {i : Nat} (h : i < l.length) : l.take (i + 1) = l.take i ++ [l.getD i 0] := by
  rw [List.take_add_one, List.getElem?_eq_getElem h]
  simp [List.getD, h]
theorem Cut (s : List UInt8) (at' : UInt8) (hl : s.length ≤ 100000) : CallP Tryz.prog 36 [vT s, vY at'] (.s (.d (dTs (cutL at' s)))) := by
  refine callP_of_ex (rc := []) (N := 40) Tryz.func36 rfl rfl Tryz.call36 tab_ok mix rfl rfl (fun cx href => ?_)
  refine AW.loopI (fun i : Nat => ⟨[(0, vT s), (1, vY at'), (5, .s (.own 100)), (6, vI i)], [(100, some (.row 9 (cutL at' (s.take i)).length 1 (fun k => txtEl ((cutL at' (s.take i)).getD k default))))]⟩)
    (fun i => i ≤ s.length) (fun i => s.length - i) 0 (Nat.zero_le _) ?_ ?_
  · exact SubI.of0 href [(100, 7)] rfl ⟨⟨rfl, LeBx.row rfl fun i j hi hj => LeD.of_eq (by
      obtain rfl : i = 0 := by omega
      obtain rfl : j = 0 := by have : j < 1 := hj; omega
      rfl)⟩, trivial⟩ ⟨⟨rfl, LeQ.rfl⟩, ⟨rfl, LeQ.rfl⟩, ⟨rfl, LeQ.rfl⟩, ⟨rfl, LeQ.rfl⟩, trivial⟩
  · intro i hi
    obtain ⟨c1, c2⟩ := cutL_len at' (s.take i)
    have c3 : (s.take i).length = i := by simp; omega
    have c4 := List.length_pos_iff.2 c1
    refine ex.sound (rc := []) tab_ok mix href _ ?_
    refine And.intro (fun h => ?_) (fun h => ?_)
    · have h : (i : Int) < ((bs s).size : Int) := decT h
      rw [bs_size] at h
      have hi' : i < s.length := by omega
      have hts := take_succ_getD s hi'
      refine oi (show 0 ≤ (i : Int) ∧ (i : Int) < ((bs s).size : Int) by rw [bs_size]; omega) ?_
      refine And.intro (fun h2 => ?_) (fun h2 => ?_)
      · have h2 : (((((bs s)[(i : Int).toNat]!).toNat : Int)) == (at'.toNat : Int)) = true := h2
        rw [u8_eq, bs_get, Int.toNat_natCast] at h2
        have e : cutL at' (s.take (i + 1)) = cutL at' (s.take i) ++ [[]] := by
          rw [hts, cutL_snoc, cutStep, h2]; rfl
        refine ob (show ((cutL at' (s.take i)).length + 1) * 16 ≤ _ by omega) ?_
        refine ob (fit1 (lt1 rfl)) ?_
        refine ⟨i + 1, by omega, by omega, ?_⟩
        refine SubI.of0 href [(100, 21)] rfl ⟨⟨rfl, ?_⟩, trivial⟩ ⟨⟨rfl, LeQ.rfl⟩, ⟨rfl, LeQ.rfl⟩, ⟨rfl, LeQ.rfl⟩, ⟨rfl, LeQ.int (w64_of (by omega) (by omega))⟩, trivial⟩
        rw [e]
        exact RowIs.row (el := txtEl) (RowIs.snoc RowIs.refl (lt1 rfl))
      · have h2 : (((((bs s)[(i : Int).toNat]!).toNat : Int)) == (at'.toNat : Int)) = false := h2
        rw [u8_eq, bs_get, Int.toNat_natCast] at h2
        have ew : w64 ((cutL at' (s.take i)).length - 1) = ((cutL at' (s.take i)).length : Int) - 1 := w64_of (by omega) (by omega)
        refine oi (show 0 ≤ w64 ((cutL at' (s.take i)).length - 1) ∧ w64 ((cutL at' (s.take i)).length - 1) < ((cutL at' (s.take i)).length : Int) by rw [ew]; omega) ?_
        have hx : (w64 ((cutL at' (s.take i)).length - 1)).toNat < (cutL at' (s.take i)).length := by rw [ew]; omega
        have ei : w64 ((i : Int) + 1) = (i : Int) + 1 := w64_of (by omega) (by omega)
        refine oi hx ?_
        refine oi (show 0 ≤ (i : Int) ∧ (i : Int) ≤ w64 ((i : Int) + 1) ∧ w64 ((i : Int) + 1) ≤ ((bs s).size : Int) by rw [bs_size, ei]; omega) ?_
        refine oi (show (bs ((cutL at' (s.take i)).getD (w64 ((cutL at' (s.take i)).length - 1)).toNat default)).size + ((bs s).extract (i : Int).toNat (w64 ((i : Int) + 1)).toNat).size ≤ 9223372036854775807 from ?_) ?_
        · have hm : ((cutL at' (s.take i)).getD (w64 ((cutL at' (s.take i)).length - 1)).toNat default) ∈ cutL at' (s.take i) := by
            rw [List.getD_eq_getElem?_getD, List.getElem?_eq_getElem hx]; exact List.getElem_mem hx
          have := cutL_elem hm
          rw [bs_extract, bs_size, bs_size]
          simp only [List.length_drop, List.length_take]
          omega
        refine oi (show 0 ≤ w64 ((cutL at' (s.take i)).length - 1) ∧ w64 ((cutL at' (s.take i)).length - 1) < ((cutL at' (s.take i)).length : Int) by rw [ew]; omega) ?_
        refine ob hx ?_
        refine And.intro (by kernel_rfl) ?_
        refine ⟨i + 1, by omega, by omega, ?_⟩
        refine SubI.of0 href [] rfl ⟨⟨rfl, ?_⟩, trivial⟩ ⟨⟨rfl, LeQ.rfl⟩, ⟨rfl, LeQ.rfl⟩, ⟨rfl, LeQ.rfl⟩, ⟨rfl, LeQ.int ei⟩, trivial⟩
        have e : cutL at' (s.take (i + 1)) = (cutL at' (s.take i)).dropLast ++ [(cutL at' (s.take i)).getLastD [] ++ [s.getD i 0]] := by
          rw [hts, cutL_snoc, cutStep, h2]; rfl
        have en : (w64 ((cutL at' (s.take i)).length - 1)).toNat = (cutL at' (s.take i)).length - 1 := by rw [ew]; omega
        refine LeBx.row (by rw [e]; simp; omega) fun k j hk hj => LeD.of_eq ?_
        obtain rfl : j = 0 := by have : j < 1 := hj; omega
        rw [e, en]
        by_cases hkl : k = (cutL at' (s.take i)).length - 1
        · subst hkl
          refine rowSet_self.trans ?_
          show DV.val (Value.string (bs ((cutL at' (s.take i)).getD ((cutL at' (s.take i)).length - 1) default) ++ (bs s).extract (i : Int).toNat (w64 ((i : Int) + 1)).toNat)) = dT _
          rw [bs_extract, bs_add]
          have e1 : ((s.take (w64 ((i : Int) + 1)).toNat).drop (i : Int).toNat) = [s.getD i 0] := by
            rw [ei, show ((i : Int) + 1).toNat = i + 1 by omega, Int.toNat_natCast, hts, List.drop_append_of_le_length (by omega), List.drop_eq_nil_of_le (by omega), List.nil_append]
          have e2 : (cutL at' (s.take i)).getD ((cutL at' (s.take i)).length - 1) default = (cutL at' (s.take i)).getLastD [] := by
            rw [List.getLastD_eq_getLast?, List.getLast?_eq_getElem?, List.getD_eq_getElem?_getD]; rfl
          rw [e1, e2]
          refine congrArg dT ?_
          have e3 : ∀ (l : List (List UInt8)) (x d : List UInt8), (l ++ [x]).getD l.length d = x := by intro l x d; simp
          rw [show (cutL at' (s.take i)).length - 1 = (cutL at' (s.take i)).dropLast.length by simp]
          exact (e3 _ _ _).symm
        · refine (rowSet_ne hkl).trans ?_
          show txtEl _ 0 = txtEl _ 0
          congr 1
          rw [List.getD_eq_getElem?_getD, List.getD_eq_getElem?_getD, List.getElem?_append_left (by simp; omega), List.getElem?_dropLast, if_pos (by omega)]
    · have h : ¬ (i : Int) < ((bs s).size : Int) := decF h
      rw [bs_size] at h
      obtain rfl : i = s.length := by omega
      rw [List.take_length]
      exact SubR.refl _
end Go.Ch

/- The reference's number. -/
namespace Go.Ch
open Go Go.Ax Go.Proofs Go.Proofs.Tryz
set_option maxRecDepth 100000
set_option pp.maxSteps 400
set_option maxHeartbeats 1000000

theorem u8_of {n : Int} (h : 0 ≤ n) (k : n ≤ 255) : IntKind.u8.wrap n = n := by
  unfold IntKind.wrap
  simp [IntKind.bits, IntKind.signed]
  omega
theorem pow9 {n : Int} {i : Nat} (h : n < 10 ^ i) (hi : i ≤ 9) : n < 1000000000 := by
  have : (10 : Int) ^ i ≤ 10 ^ 9 := by
    have := Nat.pow_le_pow_right (n := 10) (by decide) hi
    exact_mod_cast this
  have e9 : (10 : Int) ^ 9 = 1000000000 := by decide
  omega
theorem numF_step {w : List UInt8} {i : Nat} {n : Int} {neg : Bool} (h : numF w i = some (n, neg)) :
    numF w (i + 1) = (bif i == 0 && w.getD i 0 == 45 then some (n, true)
      else bif decide ((w.getD i 0).toNat < 48) || decide ((w.getD i 0).toNat > 57) then none
      else some (10 * n + (((w.getD i 0).toNat : Int) - 48), neg)) := by rw [numF, h]
theorem numF_none {w : List UInt8} {i : Nat} (h : numF w i = none) : ∀ k, numF w (i + k) = none
  | 0 => h
  | k + 1 => by rw [← Nat.add_assoc, numF, numF_none h k]
theorem Number (w : List UInt8) : CallP Tryz.prog 37 [vT w] (.t [.s (.d (dI (numV w).1)), .s (.d (.val (.bool (numV w).2)))]) := by
  refine callP_of_ex (rc := []) (N := 50) Tryz.func37 rfl rfl Tryz.call37 tab_ok mix rfl rfl (fun cx href => ?_)
  refine And.intro (fun h0 => ?_) (fun h0 => ?_)
  · have h0 : ((bs w).size : Int) > 9 := decT h0
    rw [bs_size] at h0
    rw [show numV w = (0, false) by unfold numV; rw [show decide (w.length > 9) = true by simp; omega]; rfl]
    exact SubR.t ⟨LeD.refl _, fun _ _ h => h, trivial⟩
  have h0 : ¬ ((bs w).size : Int) > 9 := decF h0
  rw [bs_size] at h0
  have hl : w.length ≤ 9 := by omega
  have ev : numV w = match numF w w.length with
      | none => (0, false)
      | some (n, neg) => let m := bif neg then -n else n; (m, Lib.itoa m == w) := by
    unfold numV; rw [show decide (w.length > 9) = false by simp; omega]; rfl
  refine AW.loopI (fun q : Nat × Int × Bool => ⟨[(0, vT w), (4, vI q.2.1), (5, vB q.2.2), (6, vI q.1)], []⟩)
    (fun q => q.1 ≤ w.length ∧ numF w q.1 = some q.2) (fun q => w.length - q.1) (0, 0, false) ⟨Nat.zero_le _, rfl⟩ ?_ ?_
  · exact SubI.of0 href [] rfl trivial ⟨⟨rfl, LeQ.rfl⟩, ⟨rfl, LeQ.rfl⟩, ⟨rfl, LeQ.rfl⟩, ⟨rfl, LeQ.rfl⟩, trivial⟩
  · rintro ⟨i, n, neg⟩ ⟨hi, hn⟩
    simp only at hi hn
    obtain ⟨b1, b2⟩ := numF_bound w i n neg hn
    have b3 := pow9 b2 (by omega)
    have st := numF_step hn
    have n0 : ((i : Int) == 0) = (i == 0) := by rw [Bool.eq_iff_iff, beq_iff_eq, beq_iff_eq]; omega
    have u45 := u8_eq (w.getD i 0) 45
    have d1 : decide (((w.getD i 0).toNat : Int) < 48) = decide ((w.getD i 0).toNat < 48) := decide_eq_decide.2 (by omega)
    have d2 : decide (((w.getD i 0).toNat : Int) > 57) = decide ((w.getD i 0).toNat > 57) := decide_eq_decide.2 (by omega)
    refine ex.sound (rc := []) tab_ok mix href _ ?_
    refine And.intro (fun h => ?_) (fun h => ?_)
    · have h : (i : Int) < ((bs w).size : Int) := decT h
      rw [bs_size] at h
      have hi' : i < w.length := by omega
      have hb : 0 ≤ (i : Int) ∧ (i : Int) < ((bs w).size : Int) := by rw [bs_size]; omega
      repeat first | refine sk ?_ | refine st ?_ | refine sg ?_ | refine sh ?_ | refine su ?_ | refine sn1 ?_ | refine sn0 ?_ | refine And.intro (show imp none (gimp _ none) from trivial) ?_
      refine And.intro (fun _ => hb) ?_
      repeat first | refine sk ?_ | refine st ?_ | refine sg ?_ | refine sh ?_ | refine su ?_ | refine sn1 ?_ | refine sn0 ?_ | refine And.intro (show imp none (gimp _ none) from trivial) ?_
      refine And.intro (fun h2 => ?_) (fun h2 => ?_)
      · have h2 : (((i : Int) == 0) && ((((bs w)[(i : Int).toNat]!).toNat : Int) == 45)) = true := h2
        have h2 : (i == 0 && w.getD i 0 == 45) = true := by rw [← n0, ← u45, ← bs_get]; exact h2
        rw [h2] at st
        refine ⟨(i + 1, n, true), ⟨by simp only; omega, st⟩, by simp only; omega, ?_⟩
        exact SubI.of0 href [] rfl trivial ⟨⟨rfl, LeQ.rfl⟩, ⟨rfl, LeQ.rfl⟩, ⟨rfl, LeQ.lit rfl⟩, ⟨rfl, LeQ.int (w64_of (by simp only; omega) (by simp only; omega))⟩, trivial⟩
      · have h2 : (((i : Int) == 0) && ((((bs w)[(i : Int).toNat]!).toNat : Int) == 45)) = false := h2
        have h2 : (i == 0 && w.getD i 0 == 45) = false := by rw [← n0, ← u45, ← bs_get]; exact h2
        rw [h2] at st
        refine oi hb ?_
        repeat first | refine sk ?_ | refine st ?_ | refine sg ?_ | refine sh ?_ | refine su ?_ | refine sn1 ?_ | refine sn0 ?_ | refine And.intro (show imp none (gimp _ none) from trivial) ?_
        refine And.intro (fun _ => hb) ?_
        repeat first | refine sk ?_ | refine st ?_ | refine sg ?_ | refine sh ?_ | refine su ?_ | refine sn1 ?_ | refine sn0 ?_ | refine And.intro (show imp none (gimp _ none) from trivial) ?_
        refine And.intro (fun h3 => ?_) (fun h3 => ?_)
        · have h3 : (decide ((((bs w)[(i : Int).toNat]!).toNat : Int) < 48) || decide ((((bs w)[(i : Int).toNat]!).toNat : Int) > 57)) = true := h3
          have h3 : (decide ((w.getD i 0).toNat < 48) || decide ((w.getD i 0).toNat > 57)) = true := by rw [← d1, ← d2, ← bs_get]; exact h3
          rw [h3] at st
          have := numF_none st (w.length - (i + 1))
          rw [show i + 1 + (w.length - (i + 1)) = w.length by omega] at this
          rw [ev, this]
          exact SubR.t ⟨LeD.refl _, fun _ _ h => h, trivial⟩
        · have h3 : (decide ((((bs w)[(i : Int).toNat]!).toNat : Int) < 48) || decide ((((bs w)[(i : Int).toNat]!).toNat : Int) > 57)) = false := h3
          have h3 : (decide ((w.getD i 0).toNat < 48) || decide ((w.getD i 0).toNat > 57)) = false := by rw [← d1, ← d2, ← bs_get]; exact h3
          rw [h3] at st
          simp only [Bool.or_eq_false_iff, decide_eq_false_iff_not] at h3
          refine oi hb ?_
          refine ⟨(i + 1, 10 * n + (((w.getD i 0).toNat : Int) - 48), neg), ⟨by simp only; omega, st⟩, by simp only; omega, ?_⟩
          refine SubI.of0 href [] rfl trivial ⟨⟨rfl, LeQ.rfl⟩, ⟨rfl, LeQ.int ?_⟩, ⟨rfl, LeQ.rfl⟩, ⟨rfl, LeQ.int (w64_of (by simp only; omega) (by simp only; omega))⟩, trivial⟩
          show w64 (w64 (10 * n) + w64 (IntKind.u8.wrap ((((bs w)[(i : Int).toNat]!).toNat : Int) - 48))) = _
          rw [Int.toNat_natCast, bs_get, u8_of (by omega) (by omega), w64_of (n := 10 * n) (by omega) (by omega), w64_of (n := ((w.getD i 0).toNat : Int) - 48) (by omega) (by omega), w64_of (by omega) (by omega)]
    · have h : ¬ (i : Int) < ((bs w).size : Int) := decF h
      rw [bs_size] at h
      obtain rfl : i = w.length := by omega
      rw [hn] at ev
      refine And.intro (fun h2 => ?_) (fun h2 => ?_)
      · have h2 : neg = true := h2
        subst h2
        have en : w64 (0 - n) = -n := by rw [w64_of (by omega) (by omega)]; omega
        refine callN (Decimal (w64 (0 - n)) (by omega) (by omega)) ?_
        rw [ev]
        refine SubR.of_eq ?_
        show AV.t [.s (.d (dI (w64 (0 - n)))), .s (.d (.val (.bool ((bs (Lib.itoa (w64 (0 - n)))).toList == (bs w).toList))))] = _
        rw [bs_toList, bs_toList, en]; rfl
      · have h2 : neg = false := h2
        subst h2
        refine callN (Decimal n (by omega) (by omega)) ?_
        rw [ev]
        refine SubR.of_eq ?_
        show AV.t [.s (.d (dI (n))), .s (.d (.val (.bool ((bs (Lib.itoa (n))).toList == (bs w).toList))))] = _
        rw [bs_toList, bs_toList]; rfl
end Go.Ch

/- The reference's number and numbers. -/
namespace Go.Ch
open Go Go.Ax Go.Proofs Go.Proofs.Tryz
set_option maxRecDepth 100000
set_option pp.maxSteps 400
set_option maxHeartbeats 1000000

theorem rNumber (w : List UInt8) (hw : w.length ≤ 1000000) : CallP Tryz.prog 95 [vT w] (.t [.s (.d (dI (numR w).1)), .s (.d (.val (.bool (numR w).2)))]) := by
  refine callP_of_aw (N := 61) Tryz.func95 rfl rfl Tryz.call95 tab_ok rfl rfl (fun cx href => ?_)
  refine AW.seq (ex.sound (rc := []) tab_ok mix href _ ?_)
  refine AW.seq (ex.sound (rc := []) tab_ok mix href _ ?_)
  refine AW.cut (σ' := ⟨[(0, vT w), (4, vI 0), (5, vI (fromR w))], []⟩) ?_ ?_
  · refine ex.sound (rc := []) tab_ok mix href _ ?_
    repeat first | refine sk ?_ | refine st ?_ | refine sg ?_ | refine sh ?_ | refine su ?_ | refine sn1 ?_ | refine sn0 ?_ | refine And.intro (show imp none (gimp _ none) from trivial) ?_
    refine And.intro (fun hl => ?_) ?_
    · have hl : decide (((bs w).size : Int) > 0) = true := hl
      have hl := decT hl
      exact ⟨by decide, hl⟩
    repeat first | refine sk ?_ | refine st ?_ | refine sg ?_ | refine sh ?_ | refine su ?_ | refine sn1 ?_ | refine sn0 ?_ | refine And.intro (show imp none (gimp _ none) from trivial) ?_
    have e : ∀ b, (decide (((bs w).size : Int) > 0) && ((((bs w)[(0 : Int).toNat]!).toNat : Int) == 45)) = b → fromR w = bif b then 1 else 0 := by
      intro b h
      have u45 := u8_eq (w.getD 0 0) 45
      rw [bs_size, bs_get, show (0 : Int).toNat = 0 from rfl] at h
      have h : (decide ((w.length : Int) > 0) && w.getD 0 0 == 45) = b := by rw [← u45]; exact h
      rw [show decide ((w.length : Int) > 0) = decide (0 < w.length) from decide_eq_decide.2 (by omega)] at h
      unfold fromR; rw [h]
    refine And.intro (fun h => ?_) (fun h => ?_)
    · refine ⟨rfl, SubI.of0 href [] rfl trivial ⟨⟨rfl, LeQ.rfl⟩, ⟨rfl, LeQ.rfl⟩, ⟨rfl, LeQ.int (by rw [e true h]; rfl)⟩, trivial⟩⟩
    · refine ⟨rfl, SubI.of0 href [] rfl trivial ⟨⟨rfl, LeQ.rfl⟩, ⟨rfl, LeQ.rfl⟩, ⟨rfl, LeQ.int (by rw [e false h]; rfl)⟩, trivial⟩⟩
  have hf1 : fromR w ≤ 1 := by unfold fromR; cases (decide (0 < w.length) && w.getD 0 0 == 45) <;> simp
  have hf2 : fromR w ≤ w.length := by
    unfold fromR
    cases w with
    | nil => simp
    | cons a t => cases h : (decide (0 < (a :: t).length) && (a :: t).getD 0 0 == 45) <;> simp
  refine AW.seq (ex.sound (rc := []) tab_ok mix href _ ?_)
  repeat first | refine sk ?_ | refine st ?_ | refine sg ?_ | refine sh ?_ | refine su ?_ | refine sn1 ?_ | refine sn0 ?_ | refine And.intro (show imp none (gimp _ none) from trivial) ?_
  have e : ∀ b, (decide (w64 (((bs w).size : Int) - (fromR w : Int)) < 1) || decide (w64 (((bs w).size : Int) - (fromR w : Int)) > 8)) = b → (decide (w.length < fromR w + 1) || decide (w.length > fromR w + 8)) = b := by
    intro b h
    rw [← h, bs_size, w64_of (by omega) (by omega)]
    congr 1
    · exact decide_eq_decide.2 (by omega)
    · exact decide_eq_decide.2 (by omega)
  refine And.intro (fun h0 => ?_) (fun h0 => ?_)
  · have h0 := e _ h0
    rw [show numR w = (0, false) by unfold numR; rw [h0]; rfl]
    exact SubR.t ⟨LeD.refl _, fun _ _ h => h, trivial⟩
  have h0 := e _ h0
  have ev : numR w = match numF w w.length with
      | none => (0, false)
      | some (n, neg) => let m := bif neg then -n else n; (m, Lib.itoa m == w) := by
    unfold numR; rw [h0]; rfl
  simp only [Bool.or_eq_false_iff, decide_eq_false_iff_not] at h0
  have hfs : numF w (fromR w) = some (0, fromR w == 1) := by
    unfold fromR
    cases hc : (decide (0 < w.length) && w.getD 0 0 == 45) with
    | false => rfl
    | true =>
      simp only [Bool.and_eq_true] at hc
      have h45 := hc.2
      show numF w 1 = some (0, true)
      rw [numF, numF]
      simp only
      rw [h45]
      rfl
  refine AW.seq ?_
  refine AW.seq (ex.sound (rc := []) tab_ok mix href _ ?_)
  refine AW.block ?_
  refine AW.loopI (fun q : Nat × Int => ⟨[(0, vT w), (4, vI q.2), (5, vI (fromR w)), (6, vI q.1)], []⟩)
    (fun q => fromR w ≤ q.1 ∧ q.1 ≤ w.length ∧ numF w q.1 = some (q.2, fromR w == 1)) (fun q => w.length - q.1) (fromR w, 0) ⟨Nat.le_refl _, hf2, hfs⟩ ?_ ?_
  · exact SubI.of0 href [] rfl trivial ⟨⟨rfl, LeQ.rfl⟩, ⟨rfl, LeQ.rfl⟩, ⟨rfl, LeQ.rfl⟩, ⟨rfl, LeQ.rfl⟩, trivial⟩
  · rintro ⟨i, n⟩ ⟨hi0, hi, hn⟩
    simp only at hi hn hi0
    obtain ⟨_, b1, b2⟩ := numF_drop w i n _ hn hi0
    have b3 := pow8 b2 (by omega)
    have st := numF_step hn
    have hno : (i == 0 && w.getD i 0 == 45) = false ∨ ¬ i < w.length := by
      by_cases h : i < w.length
      · left
        cases hz : i == 0 with
        | false => rfl
        | true =>
          have : i = 0 := by simpa using hz
          subst this
          have hf0 : fromR w = 0 := by omega
          unfold fromR at hf0
          cases hc : (decide (0 < w.length) && w.getD 0 0 == 45) with
          | true => rw [hc] at hf0; cases hf0
          | false => rw [show decide (0 < w.length) = true by simpa using h] at hc; simpa using hc
      · exact .inr h
    have d1 : decide (((w.getD i 0).toNat : Int) < 48) = decide ((w.getD i 0).toNat < 48) := decide_eq_decide.2 (by omega)
    have d2 : decide (((w.getD i 0).toNat : Int) > 57) = decide ((w.getD i 0).toNat > 57) := decide_eq_decide.2 (by omega)
    refine ex.sound (rc := []) tab_ok mix href _ ?_
    refine And.intro (fun h => ?_) (fun h => ?_)
    · have h : (i : Int) < ((bs w).size : Int) := decT h
      rw [bs_size] at h
      have hi' : i < w.length := by omega
      have hno := hno.resolve_right (by omega)
      rw [hno] at st
      have hb : 0 ≤ (i : Int) ∧ (i : Int) < ((bs w).size : Int) := by rw [bs_size]; omega
      refine oi hb ?_
      repeat first | refine sk ?_ | refine st ?_ | refine sg ?_ | refine sh ?_ | refine su ?_ | refine sn1 ?_ | refine sn0 ?_ | refine And.intro (show imp none (gimp _ none) from trivial) ?_
      refine And.intro (fun _ => hb) ?_
      repeat first | refine sk ?_ | refine st ?_ | refine sg ?_ | refine sh ?_ | refine su ?_ | refine sn1 ?_ | refine sn0 ?_ | refine And.intro (show imp none (gimp _ none) from trivial) ?_
      refine And.intro (fun h3 => ?_) (fun h3 => ?_)
      · have h3 : (decide ((((bs w)[(i : Int).toNat]!).toNat : Int) < 48) || decide ((((bs w)[(i : Int).toNat]!).toNat : Int) > 57)) = true := h3
        have h3 : (decide ((w.getD i 0).toNat < 48) || decide ((w.getD i 0).toNat > 57)) = true := by rw [← d1, ← d2, ← bs_get]; exact h3
        rw [h3] at st
        have := numF_none st (w.length - (i + 1))
        rw [show i + 1 + (w.length - (i + 1)) = w.length by omega] at this
        rw [ev, this]
        exact SubR.t ⟨LeD.refl _, fun _ _ h => h, trivial⟩
      · have h3 : (decide ((((bs w)[(i : Int).toNat]!).toNat : Int) < 48) || decide ((((bs w)[(i : Int).toNat]!).toNat : Int) > 57)) = false := h3
        have h3 : (decide ((w.getD i 0).toNat < 48) || decide ((w.getD i 0).toNat > 57)) = false := by rw [← d1, ← d2, ← bs_get]; exact h3
        rw [h3] at st
        simp only [Bool.or_eq_false_iff, decide_eq_false_iff_not] at h3
        refine oi hb ?_
        refine ⟨(i + 1, 10 * n + (((w.getD i 0).toNat : Int) - 48)), ⟨by simp only; omega, by simp only; omega, st⟩, by simp only; omega, ?_⟩
        refine SubI.of0 href [] rfl trivial ⟨⟨rfl, LeQ.rfl⟩, ⟨rfl, LeQ.int ?_⟩, ⟨rfl, LeQ.rfl⟩, ⟨rfl, LeQ.int (w64_of (by simp only; omega) (by simp only; omega))⟩, trivial⟩
        show w64 (w64 (10 * n) + w64 (IntKind.u8.wrap ((((bs w)[(i : Int).toNat]!).toNat : Int) - 48))) = _
        rw [Int.toNat_natCast, bs_get, u8_of (by omega) (by omega), w64_of (n := 10 * n) (by omega) (by omega), w64_of (n := ((w.getD i 0).toNat : Int) - 48) (by omega) (by omega), w64_of (by omega) (by omega)]
    · have h : ¬ (i : Int) < ((bs w).size : Int) := decF h
      rw [bs_size] at h
      obtain rfl : i = w.length := by omega
      rw [hn] at ev
      refine ex.sound (rc := []) tab_ok mix href _ ?_
      refine And.intro (fun h2 => ?_) (fun h2 => ?_)
      · have h2 : ((fromR w : Int) == 1) = true := h2
        have h2 : (fromR w == 1) = true := by rw [beq_iff_eq] at h2 ⊢; omega
        rw [h2] at ev
        have en : w64 (0 - n) = -n := by rw [w64_of (by omega) (by omega)]; omega
        refine callN (Decimal (w64 (0 - n)) (by omega) (by omega)) ?_
        rw [ev]
        refine SubR.of_eq ?_
        show AV.t [.s (.d (dI (w64 (0 - n)))), .s (.d (.val (.bool ((bs (Lib.itoa (w64 (0 - n)))).toList == (bs w).toList))))] = _
        rw [bs_toList, bs_toList, en]; rfl
      · have h2 : ((fromR w : Int) == 1) = false := h2
        have h2 : (fromR w == 1) = false := by rw [beq_eq_false_iff_ne] at h2 ⊢; omega
        rw [h2] at ev
        refine callN (Decimal n (by omega) (by omega)) ?_
        rw [ev]
        refine SubR.of_eq ?_
        show AV.t [.s (.d (dI (n))), .s (.d (.val (.bool ((bs (Lib.itoa (n))).toList == (bs w).toList))))] = _
        rw [bs_toList, bs_toList]; rfl

theorem rNumbers (ws : List (List UInt8)) (h1 : ws.length ≤ 1000000) (h2 : ∀ w ∈ ws, w.length ≤ 1000000) : CallP Tryz.prog 55 [.s (.d (dTs ws))] (.t [.s (.d (dInts (numsL ws))), .s (.d (.val (.bool (numsP ws).isSome)))]) := by
  refine callP_of_ex (rc := []) (N := 29) Tryz.func55 rfl rfl Tryz.call55 tab_ok mix rfl rfl (fun cx href => ?_)
  refine AW.loopI (fun q : Nat × List Int => ⟨[(0, .s (.d (dTs ws))), (4, .s (.mo q.2.isEmpty 100)), (5, vI q.1)], [(100, some (.mrow 3 q.2.length 1 (intEl q.2)))]⟩)
    (fun q => q.1 ≤ ws.length ∧ numsP (ws.take q.1) = some q.2) (fun q => ws.length - q.1) (0, []) ⟨Nat.zero_le _, by simp [numsP]⟩ ?_ ?_
  · exact SubI.of0 href [] rfl ⟨⟨rfl, rfl⟩, trivial⟩ ⟨⟨rfl, LeQ.rfl⟩, ⟨rfl, LeQ.nil rfl⟩, ⟨rfl, LeQ.rfl⟩, trivial⟩
  · rintro ⟨i, L⟩ ⟨hi, hn⟩
    have hL := numsP_len hn
    simp only [List.length_take] at hL
    refine ex.sound (rc := []) tab_ok mix href _ ?_
    refine And.intro (fun h => ?_) (fun h => ?_)
    · have h : (i : Int) < (ws.length : Int) := decT h
      have hi' : i < ws.length := by omega
      refine oi (show 0 ≤ (i : Int) ∧ (i : Int) < (ws.length : Int) by omega) ?_
      have hm : ws.getD i [] ∈ ws := by
        rw [List.getD_eq_getElem?_getD, List.getElem?_eq_getElem hi']; exact List.getElem_mem hi'
      refine callN (rNumber (ws.getD i []) (h2 _ hm)) ?_
      obtain ⟨q1, q2⟩ := numR_eq (ws.getD i [])
      refine And.intro (fun h3 => ?_) (fun h3 => ?_)
      · have h3 : (!(numR (ws.getD i [])).2) = true := h3
        have hp : numP (ws.getD i []) = none := by
          cases hq : numP (ws.getD i []) with
          | none => rfl
          | some _ => rw [hq] at q1; rw [q1] at h3; cases h3
        have hn0 := numsP_bad hm hp
        unfold numsL
        rw [hn0]
        exact SubR.t ⟨LeD.nil, LeD.refl _, trivial⟩
      · have h3 : (!(numR (ws.getD i [])).2) = false := h3
        have hp := q2 (by simpa using h3)
        refine ob Nat.zero_lt_one ?_
        refine ob (show ((bif L.isEmpty then 0 else L.length) + 1) * 8 ≤ 140737488355328 by rw [bif_len]; omega) ?_
        refine ob (fit1 (lt1 rfl)) ?_
        refine ⟨(i + 1, L ++ [(numR (ws.getD i [])).1]), ⟨by simp only; omega, ?_⟩, by simp only; omega, ?_⟩
        · simp only
          rw [List.take_succ_eq_append_getElem hi']
          refine numsP_snoc hn ?_
          rw [show ws[i] = ws.getD i [] by rw [List.getD_eq_getElem?_getD, List.getElem?_eq_getElem hi']; rfl]
          exact hp
        · exact SubI.of0 href [(100, 27)] rfl ⟨⟨rfl, RowIs.mrow (el := fun x _ => dI x) (RowIs.snoc intRow (lt1 rfl))⟩, trivial⟩ ⟨⟨rfl, LeQ.rfl⟩, ⟨rfl, LeQ.mo (isEmpty_snoc _ _)⟩, ⟨rfl, LeQ.int (w64_of (by simp only; omega) (by simp only; omega))⟩, trivial⟩
    · have h : ¬ (i : Int) < (ws.length : Int) := decF h
      obtain rfl : i = ws.length := by omega
      rw [List.take_length] at hn
      unfold numsL
      rw [hn]
      refine SubR.t ⟨LeD.slc' (bif_len _) fun _ _ _ _ => LeD.refl _, LeD.refl _, trivial⟩
end Go.Ch

/- The reference's region; equality of points and channels. -/
namespace Go.Ch
open Go Go.Ax Go.Proofs Go.Proofs.Tryz
set_option maxRecDepth 100000
set_option pp.maxSteps 400
set_option maxHeartbeats 1000000

def cornN (n : List Int) (k : Nat) : List Pt := (List.range k).map fun j => ⟨n.getD (2 * j + 1) 0, n.getD (2 * j + 2) 0⟩
theorem cornN_succ (n : List Int) (k : Nat) : cornN n (k + 1) = cornN n k ++ [⟨n.getD (2 * k + 1) 0, n.getD (2 * k + 2) 0⟩] := by
  simp [cornN, List.range_succ]
theorem cornN_len (n : List Int) (k : Nat) : (cornN n k).length = k := by simp [cornN]
def regN (name : List UInt8) (n : List Int) : Reg := ⟨bs name, n.getD 0 0, cornN n ((n.length - 1) / 2)⟩
theorem rRegion (name : List UInt8) (n : List Int) (h1 : 1 ≤ n.length) (h2 : n.length ≤ 1000000) : CallP Tryz.prog 56 [vT name, vInts n] (reg (regN name n)) := by
  refine callP_of_ex (rc := []) (N := 35) Tryz.func56 rfl rfl Tryz.call56 tab_ok mix rfl rfl (fun cx href => ?_)
  refine oi (show 0 ≤ (0 : Int) ∧ (0 : Int) < (n.length : Int) by omega) ?_
  refine AW.loopI (fun k : Nat => ⟨[(0, vT name), (1, vInts n), (4, .s (.ptr 4 0)), (5, .s (.ptr 5 0)), (6, vI (1 + 2 * (k : Int)))],
      [(4, some (.cells (zvs ty90.zero))), (5, some (.cells [.d (dT name), .d (dI (n.getD 0 0)), .mo (cornN n k).isEmpty 100])), (100, some (.mrow 85 (cornN n k).length 2 (ptEl (cornN n k))))]⟩)
    (fun k => k ≤ (n.length - 1) / 2) (fun k => (n.length - 1) / 2 - k) 0 (Nat.zero_le _) ?_ ?_
  · exact SubI.of0 href [] rfl ⟨⟨rfl, LeBx.rfl⟩, ⟨rfl, LeBx.cells ⟨LeQ.rfl, LeQ.rfl, LeQ.nil rfl, trivial⟩⟩, ⟨rfl, rfl⟩, trivial⟩ ⟨⟨rfl, LeQ.rfl⟩, ⟨rfl, LeQ.rfl⟩, ⟨rfl, LeQ.rfl⟩, ⟨rfl, LeQ.rfl⟩, ⟨rfl, LeQ.rfl⟩, trivial⟩
  · intro k hk
    have hl := cornN_len n k
    have w1 : w64 (1 + 2 * (k : Int) + 1) = 1 + 2 * (k : Int) + 1 := w64_of (by omega) (by omega)
    refine ex.sound (rc := []) tab_ok mix href _ ?_
    refine And.intro (fun h => ?_) (fun h => ?_)
    · have h : w64 (1 + 2 * (k : Int) + 1) < (n.length : Int) := decT h
      rw [w1] at h
      refine oi (show 0 ≤ (1 + 2 * (k : Int)) ∧ (1 + 2 * (k : Int)) < (n.length : Int) by omega) ?_
      refine oi (show 0 ≤ w64 (1 + 2 * (k : Int) + 1) ∧ w64 (1 + 2 * (k : Int) + 1) < (n.length : Int) by rw [w1]; omega) ?_
      refine ob (by decide) ?_
      refine ob (by rw [bif_len]; show _ * 16 ≤ _; omega) ?_
      refine ob (fit1 (lt2 rfl rfl)) ?_
      refine And.intro (by kernel_rfl) ?_
      refine ⟨k + 1, by omega, by omega, ?_⟩
      have e : cornN n (k + 1) = cornN n k ++ [⟨n.getD (2 * k + 1) 0, n.getD (2 * k + 2) 0⟩] := cornN_succ n k
      refine SubI.of0 href [(100, 32)] rfl ⟨⟨rfl, LeBx.rfl⟩, ⟨rfl, LeBx.cells ⟨LeQ.rfl, LeQ.rfl, LeQ.mo (by rw [e]; exact isEmpty_snoc _ _), trivial⟩⟩, ⟨rfl, ?_⟩, trivial⟩ ⟨⟨rfl, LeQ.rfl⟩, ⟨rfl, LeQ.rfl⟩, ⟨rfl, LeQ.rfl⟩, ⟨rfl, LeQ.rfl⟩, ⟨rfl, LeQ.int ?_⟩, trivial⟩
      · show LeBx _ (.mrow 85 (cornN n (k + 1)).length 2 (ptEl (cornN n (k + 1))))
        rw [e]
        refine RowIs.mrow (el := ptD) (RowIs.snoc RowIs.bif (lt2 ?_ ?_))
        · show dI (n.getD (1 + 2 * (k : Int)).toNat 0) = dI (n.getD (2 * k + 1) 0)
          rw [show (1 + 2 * (k : Int)).toNat = 2 * k + 1 by omega]
        · show dI (n.getD (w64 (1 + 2 * (k : Int) + 1)).toNat 0) = dI (n.getD (2 * k + 2) 0)
          rw [w1, show (1 + 2 * (k : Int) + 1).toNat = 2 * k + 2 by omega]
      · show w64 (1 + 2 * (k : Int) + 2) = _
        rw [w64_of (by omega) (by omega)]; omega
    · have h : ¬ w64 (1 + 2 * (k : Int) + 1) < (n.length : Int) := decF h
      rw [w1] at h
      obtain rfl : k = (n.length - 1) / 2 := by omega
      refine SubR.le ⟨LeD.refl _, LeD.refl _, ?_, trivial⟩
      exact LeD.slc' (bif_len _) fun _ _ _ _ => LeD.refl _

def samePts (a b : List Pt) : Bool := decide (a.length = b.length) && (List.range a.length).all fun i => decide ((a.getD i default).x = (b.getD i default).x) && decide ((a.getD i default).y = (b.getD i default).y)
theorem Points (a b : List Pt) (h : a = b) (hl : a.length ≤ 1000000) : CallP Tryz.prog 54 [pts a, pts b] (vB true) := by
  subst h
  refine callP_of_ex (rc := []) (N := 26) Tryz.func54 rfl rfl Tryz.call54 tab_ok mix rfl rfl (fun cx href => ?_)
  refine And.intro (fun h => ?_) (fun _ => ?_)
  · have h : (!((a.length : Int) == (a.length : Int))) = true := h
    simp at h
  refine AW.loopI (fun i : Nat => ⟨[(0, pts a), (1, pts a), (5, vI i)], []⟩) (fun i => i ≤ a.length) (fun i => a.length - i) 0 (Nat.zero_le _) ?_ ?_
  · exact SubI.of0 href [] rfl trivial ⟨⟨rfl, LeQ.rfl⟩, ⟨rfl, LeQ.rfl⟩, ⟨rfl, LeQ.rfl⟩, trivial⟩
  · intro i hi
    refine ex.sound (rc := []) tab_ok mix href _ ?_
    refine And.intro (fun h => ?_) (fun h => ?_)
    · have h : (i : Int) < (a.length : Int) := decT h
      refine oi (show 0 ≤ (i : Int) ∧ (i : Int) < (a.length : Int) by omega) ?_
      refine oi (show 0 ≤ (i : Int) ∧ (i : Int) < (a.length : Int) by omega) ?_
      refine And.intro (by kernel_rfl) ?_
      refine And.intro (fun h2 => ?_) (fun h2 => ?_)
      · exfalso
        have h2 : (!((a.getD (i : Int).toNat default).x == (a.getD (i : Int).toNat default).x && ((a.getD (i : Int).toNat default).y == (a.getD (i : Int).toNat default).y && true))) = true := h2
        simp at h2
      · exact ⟨i + 1, by omega, by omega, SubI.of0 href [] rfl trivial ⟨⟨rfl, LeQ.rfl⟩, ⟨rfl, LeQ.rfl⟩, ⟨rfl, LeQ.int (w64_of (by omega) (by omega))⟩, trivial⟩⟩
    · exact SubR.refl _
end Go.Ch

/- Equality of a channel with itself. -/
namespace Go.Ch
open Go Go.Ax Go.Proofs Go.Proofs.Tryz
set_option maxRecDepth 100000
set_option pp.maxSteps 400
set_option maxHeartbeats 1000000

def sameAp (a b : Ap) : Bool := a.x == b.x && (a.y == b.y && (a.half == b.half && (a.level == b.level && (a.run == b.run && true))))
theorem rSameEq (c : Chan) (h1 : c.axis.length ≤ 1000000) (h2 : c.regions.length ≤ 1000000) (h3 : ∀ i, i < c.regions.length → (c.regions.getD i default).corners.length ≤ 1000000) : CallP Tryz.prog 21 [chan c, chan c] (vB true) := by
  refine callP_of_ex (rc := []) (N := 113) Tryz.func21 rfl rfl Tryz.call21 tab_ok mix rfl rfl (fun cx href => ?_)
  repeat first | refine sk ?_ | refine st ?_ | refine sg ?_ | refine sh ?_ | refine su ?_ | refine sn1 ?_ | refine sn0 ?_
  refine And.intro (fun h => ?_) (fun _ => ?_)
  · exfalso
    have h : ((((!(c.name.toList == c.name.toList)) || c.over != c.over) || c.buffer != c.buffer) || ((c.axis.length : Int) != (c.axis.length : Int)) || ((c.regions.length : Int) != (c.regions.length : Int))) = true := h
    simp at h
  refine AW.loopI (fun i : Nat => ⟨[(2, .s (.ptr 2 0)), (3, .s (.ptr 3 0)), (5, vI i)], [(2, some (chanB c)), (3, some (chanB c))]⟩) (fun i => i ≤ c.axis.length) (fun i => c.axis.length - i) 0 (Nat.zero_le _) ?_ ?_
  · exact SubI.of0 href [] rfl ⟨⟨rfl, LeBx.rfl⟩, ⟨rfl, LeBx.rfl⟩, trivial⟩ ⟨⟨rfl, LeQ.rfl⟩, ⟨rfl, LeQ.rfl⟩, ⟨rfl, LeQ.rfl⟩, trivial⟩
  · intro i hi
    refine ex.sound (rc := []) tab_ok mix href _ ?_
    refine And.intro (fun h => ?_) (fun h => ?_)
    · have h : (i : Int) < c.axis.length := decT h
      refine oi ⟨by omega, by omega⟩ ?_
      refine oi ⟨by omega, by omega⟩ ?_
      refine And.intro (by kernel_rfl) ?_
      refine And.intro (fun h' => ?_) (fun _ => ?_)
      · exfalso
        have h' : (!sameAp (c.axis.getD i default) (c.axis.getD i default)) = true := h'
        unfold sameAp at h'
        simp at h'
      · refine ⟨i + 1, by omega, by omega, ?_⟩
        exact SubI.of0 href [] rfl ⟨⟨rfl, LeBx.rfl⟩, ⟨rfl, LeBx.rfl⟩, trivial⟩ ⟨⟨rfl, LeQ.rfl⟩, ⟨rfl, LeQ.rfl⟩, ⟨rfl, LeQ.int (w64_of (by omega) (by omega))⟩, trivial⟩
    · refine AW.loopI (fun i : Nat => ⟨[(2, .s (.ptr 2 0)), (3, .s (.ptr 3 0)), (6, vI i)], [(2, some (chanB c)), (3, some (chanB c))]⟩) (fun i => i ≤ c.regions.length) (fun i => c.regions.length - i) 0 (Nat.zero_le _) ?_ ?_
      · exact SubI.of0 href [] rfl ⟨⟨rfl, LeBx.rfl⟩, ⟨rfl, LeBx.rfl⟩, trivial⟩ ⟨⟨rfl, LeQ.rfl⟩, ⟨rfl, LeQ.rfl⟩, ⟨rfl, LeQ.rfl⟩, trivial⟩
      · intro i hi
        refine ex.sound (rc := []) tab_ok mix href _ ?_
        refine And.intro (fun h => ?_) (fun h => ?_)
        · have h : (i : Int) < c.regions.length := decT h
          have hi' : i < c.regions.length := by omega
          refine oi ⟨by omega, by omega⟩ ?_
          refine oi ⟨by omega, by omega⟩ ?_
          repeat first | refine sk ?_ | refine st ?_ | refine sg ?_ | refine sh ?_ | refine su ?_ | refine sn1 ?_ | refine sn0 ?_
          refine og (fun _ => ⟨by omega, by omega⟩) ?_
          repeat first | refine sk ?_ | refine st ?_ | refine sg ?_ | refine sh ?_ | refine su ?_ | refine sn1 ?_ | refine sn0 ?_
          refine og (fun _ => ⟨by omega, by omega⟩) ?_
          repeat first | refine sk ?_ | refine st ?_ | refine sg ?_ | refine sh ?_ | refine su ?_ | refine sn1 ?_ | refine sn0 ?_
          refine og (fun _ => ⟨by omega, by omega⟩) ?_
          repeat first | refine sk ?_ | refine st ?_ | refine sg ?_ | refine sh ?_ | refine su ?_ | refine sn1 ?_ | refine sn0 ?_
          refine og (fun _ => ⟨by omega, by omega⟩) ?_
          repeat first | refine sk ?_ | refine st ?_ | refine sg ?_ | refine sh ?_ | refine su ?_ | refine sn1 ?_ | refine sn0 ?_
          refine callG (Points _ _ rfl (h3 i hi')) ?_
          repeat first | refine sk ?_ | refine st ?_ | refine sg ?_ | refine sh ?_ | refine su ?_ | refine sn1 ?_ | refine sn0 ?_
          refine And.intro (by kernel_rfl) ?_
          refine And.intro (fun h' => ?_) (fun _ => ?_)
          · exfalso
            have h' : (((!((c.regions.getD i default).name.toList == (c.regions.getD i default).name.toList)) || (c.regions.getD i default).kind != (c.regions.getD i default).kind) || !true) = true := h'
            simp at h'
          · refine ⟨i + 1, by omega, by omega, ?_⟩
            exact SubI.of0 href [] rfl ⟨⟨rfl, LeBx.rfl⟩, ⟨rfl, LeBx.rfl⟩, trivial⟩ ⟨⟨rfl, LeQ.rfl⟩, ⟨rfl, LeQ.rfl⟩, ⟨rfl, LeQ.int (w64_of (by omega) (by omega))⟩, trivial⟩
        · exact SubR.lit rfl

def zeroC : Chan := ⟨⟨#[]⟩, [], 0, 0, []⟩
theorem sameZero : CallP Tryz.prog 21 [.g [.d (dS ⟨#[]⟩), .d (dAps []), .d (dI 0), .d (dI 0), .d (dRegs [])], .g (zvs ty41.zero)] (vB true) :=
  (rSameEq zeroC (by decide) (by decide) (fun i h => absurd h (Nat.not_lt_zero i))).conv (args' := _) ⟨⟨LeD.refl _, LeD.refl _, LeD.refl _, LeD.refl _, LeD.refl _, trivial⟩, ⟨LeD.refl _, LeD.nil, LeD.refl _, LeD.refl _, LeD.nil, trivial⟩, trivial⟩
end Go.Ch

/- The text of a channel, its lines and words, and that it is read back. No program in this text. -/
namespace Go.Ch
open Go Go.Ax Go.Proofs Go.Proofs.Tryz
open Go.Lib (itoa decDigits nDigits)
set_option maxRecDepth 100000

def nmL (s : ByteArray) : List UInt8 := s.data.toList
theorem bs_nmL (s : ByteArray) : bs (nmL s) = s := by
  obtain ⟨d⟩ := s
  show ByteArray.mk d.toList.toArray = ⟨d⟩
  rw [Array.toArray_toList]
theorem nmL_bs (l : List UInt8) : nmL (bs l) = l := rfl
theorem nmL_size (s : ByteArray) : (nmL s).length = s.size := by show s.data.toList.length = s.data.size; rw [Array.length_toList]
def chanW : List UInt8 := [99, 104, 97, 110, 110, 101, 108]
def axW : List UInt8 := [97, 120, 105, 115]
def regW : List UInt8 := [114, 101, 103, 105, 111, 110]
def numsT (l : List Int) : List UInt8 := l.flatMap fun n => 32 :: itoa n
def lineB (word name : List UInt8) (l : List Int) : List UInt8 := word ++ (bif name.isEmpty then [] else 32 :: name) ++ numsT l
def lineT (word name : List UInt8) (l : List Int) : List UInt8 := lineB word name l ++ [10]
def apN (a : Ap) : List Int := [a.x, a.y, a.half, a.level, a.run]
def ptsN (l : List Pt) : List Int := l.flatMap fun p => [p.x, p.y]
def regNs (r : Reg) : List Int := r.kind :: ptsN r.corners
def chanB' (c : Chan) : List UInt8 := lineB chanW (nmL c.name) [c.over, c.buffer]
def axB (a : Ap) : List UInt8 := lineB axW [] (apN a)
def regB (r : Reg) : List UInt8 := lineB regW (nmL r.name) (regNs r)
def textA (c : Chan) (k : Nat) : List UInt8 := chanB' c ++ [10] ++ (c.axis.take k).flatMap fun a => axB a ++ [10]
def textB (c : Chan) (k : Nat) : List UInt8 := textA c c.axis.length ++ (c.regions.take k).flatMap fun r => regB r ++ [10]
def textC (c : Chan) : List UInt8 := textB c c.regions.length
theorem textA_succ (c : Chan) {k : Nat} (h : k < c.axis.length) : textA c (k + 1) = textA c k ++ (axB (c.axis.getD k default) ++ [10]) := by
  unfold textA
  rw [List.take_succ_eq_append_getElem h, List.flatMap_append, getD_of h]
  simp
theorem textB_succ (c : Chan) {k : Nat} (h : k < c.regions.length) : textB c (k + 1) = textB c k ++ (regB (c.regions.getD k default) ++ [10]) := by
  unfold textB
  rw [List.take_succ_eq_append_getElem h, List.flatMap_append, getD_of h]
  simp
theorem numsT_succ (l : List Int) {k : Nat} (h : k < l.length) : numsT (l.take (k + 1)) = numsT (l.take k) ++ (32 :: itoa (l.getD k 0)) := by
  unfold numsT
  rw [List.take_succ_eq_append_getElem h, List.flatMap_append]
  simp [List.getD, h]

abbrev sm8 (n : Int) : Prop := n.natAbs < 100000000
/-- What is known of a channel that is accepted. -/
structure TxC (c : Chan) : Prop where
  name : 1 ≤ c.name.size ∧ c.name.size ≤ 12
  bytes : ∀ b ∈ nmL c.name, 45 ≤ b.toNat
  over : sm8 c.over
  buffer : sm8 c.buffer
  axn : c.axis.length ≤ 20
  aps : ∀ a ∈ c.axis, ∀ n ∈ apN a, sm8 n
  regn : c.regions.length ≤ 20
  rname : ∀ r ∈ c.regions, 1 ≤ r.name.size ∧ r.name.size ≤ 12
  rbytes : ∀ r ∈ c.regions, ∀ b ∈ nmL r.name, 45 ≤ b.toNat
  corners : ∀ r ∈ c.regions, r.corners.length ≤ 40
  regs : ∀ r ∈ c.regions, ∀ n ∈ regNs r, sm8 n

theorem flat_len {α : Type} {f : α → List UInt8} {B : Nat} : ∀ {l : List α}, (∀ x ∈ l, (f x).length ≤ B) → (l.flatMap f).length ≤ B * l.length
  | [], _ => by simp
  | x :: l, h => by
    have h1 := h x List.mem_cons_self
    have h2 := flat_len (l := l) (fun y hy => h y (List.mem_cons_of_mem _ hy))
    rw [List.flatMap_cons, List.length_append, List.length_cons, Nat.mul_succ]
    omega
theorem numsT_len {l : List Int} (h : ∀ n ∈ l, sm8 n) : (numsT l).length ≤ 10 * l.length :=
  flat_len fun n hn => by have := itoa_len8 (h n hn); rw [List.length_cons]; omega
theorem lineB_len {word name : List UInt8} {l : List Int} (h : ∀ n ∈ l, sm8 n) : (lineB word name l).length ≤ word.length + name.length + 1 + 10 * l.length := by
  have := numsT_len h
  unfold lineB
  rw [List.length_append, List.length_append]
  cases name <;> simp <;> omega
theorem ptsN_len : ∀ l : List Pt, (ptsN l).length = 2 * l.length
  | [] => rfl
  | p :: l => by
    have := ptsN_len l
    unfold ptsN at this ⊢
    rw [List.flatMap_cons, List.length_append, this]; simp; omega
theorem TxC.a_len {c : Chan} (v : TxC c) (k : Nat) : (textA c k).length ≤ 1200 := by
  have h1 : (chanB' c).length ≤ _ := lineB_len (word := chanW) (name := nmL c.name) (l := [c.over, c.buffer]) (by
    intro n hn
    simp only [List.mem_cons, List.not_mem_nil, or_false] at hn
    rcases hn with rfl | rfl
    · exact v.over
    · exact v.buffer)
  have h2 : ((c.axis.take k).flatMap fun a => axB a ++ [10]).length ≤ 56 * (c.axis.take k).length := flat_len fun a ha => by
    have : (axB a).length ≤ _ := lineB_len (word := axW) (name := []) (v.aps a (List.mem_of_mem_take ha))
    rw [List.length_append]
    simp only [axW, apN, List.length_cons, List.length_nil] at this ⊢
    omega
  have h3 : (c.axis.take k).length ≤ c.axis.length := by rw [List.length_take]; omega
  have h4 := v.axn
  have h5 := v.name
  rw [nmL_size] at h1
  unfold textA
  rw [List.length_append, List.length_append]
  simp only [chanW, List.length_cons, List.length_nil] at h1 ⊢
  omega
theorem TxC.b_len {c : Chan} (v : TxC c) (k : Nat) : (textB c k).length ≤ 19000 := by
  have h1 := v.a_len c.axis.length
  have h2 : ((c.regions.take k).flatMap fun r => regB r ++ [10]).length ≤ 840 * (c.regions.take k).length := flat_len fun r hr => by
    have hr := List.mem_of_mem_take hr
    have : (regB r).length ≤ _ := lineB_len (word := regW) (name := nmL r.name) (v.regs r hr)
    have h5 := v.rname r hr
    have h6 := v.corners r hr
    have h7 := ptsN_len r.corners
    rw [List.length_append]
    rw [nmL_size] at this
    simp only [regW, regNs, h7, List.length_cons, List.length_nil] at this ⊢
    omega
  have h3 : (c.regions.take k).length ≤ c.regions.length := by rw [List.length_take]; omega
  have h4 := v.regn
  unfold textB
  rw [List.length_append]
  omega
theorem TxC.len {c : Chan} (v : TxC c) : (textC c).length ≤ 20000 := by have := v.b_len c.regions.length; unfold textC; omega

/-- What a line with these words makes of a channel. -/
def apOf (n : List Int) : Ap := ⟨n.getD 0 0, n.getD 1 0, n.getD 2 0, n.getD 3 0, n.getD 4 0⟩
def stepL (i : Nat) (c : Chan) (w : List (List UInt8)) : Option Chan :=
  bif i == 0 then
    bif w.getD 0 [] == chanW && (w.length == 4 && !(w.getD 1 []).isEmpty) then
      match numsP (w.drop 2) with
      | some n => some { c with name := bs (w.getD 1 []), over := n.getD 0 0, buffer := n.getD 1 0 }
      | none => none
    else none
  else bif w.getD 0 [] == axW && c.regions.isEmpty then
    match numsP (w.drop 1) with
    | some n => bif n.length == 5 then some { c with axis := c.axis ++ [apOf n] } else none
    | none => none
  else bif w.getD 0 [] == regW && (decide (3 ≤ w.length) && (w.length % 2 == 1 && !(w.getD 1 []).isEmpty)) then
    match numsP (w.drop 2) with
    | some n => some { c with regions := c.regions ++ [regN (w.getD 1 []) n] }
    | none => none
  else none
/-- The channel of lines, or the number of the first wrong one. -/
def parL : Nat → Chan → List (List UInt8) → Option Chan × Nat
  | i, _, [] => (none, i + 1)
  | i, c, [w] => bif w.isEmpty && decide (0 < i) then (some c, 0) else (none, i + 1)
  | i, c, w :: v :: t => match stepL i c (cutL 32 w) with
    | some d => parL (i + 1) d (v :: t)
    | none => (none, i + 1)
theorem parL_cons {i : Nat} {c : Chan} {w : List UInt8} {t : List (List UInt8)} (h : t ≠ []) : parL i c (w :: t) = match stepL i c (cutL 32 w) with
    | some d => parL (i + 1) d t
    | none => (none, i + 1) := by
  cases t with
  | nil => exact absurd rfl h
  | cons v t => rfl

theorem cut_flat : ∀ (rest : List (List UInt8)) (w0 : List UInt8), (∀ x ∈ w0 :: rest, (32 : UInt8) ∉ x) → cutL 32 (w0 ++ rest.flatMap fun x => 32 :: x) = w0 :: rest
  | [], w0, h => by simpa using cutL_none (h w0 List.mem_cons_self)
  | r :: rest, w0, h => by
    have ih := cut_flat rest r (fun x hx => h x (List.mem_cons_of_mem _ hx))
    rw [List.flatMap_cons, List.cons_append, cutL_at _ (h w0 List.mem_cons_self), ih]
theorem itoa_no {n : Int} {s : UInt8} (hs : s.toNat < 45) : s ∉ itoa n := fun h => itoa_nes hs s h rfl
theorem lineB_cut {word name : List UInt8} {l : List Int} (h1 : (32 : UInt8) ∉ word) (h2 : (32 : UInt8) ∉ name) : cutL 32 (lineB word name l) = word :: ((bif name.isEmpty then [] else [name]) ++ l.map itoa) := by
  have e : lineB word name l = word ++ ((bif name.isEmpty then [] else [name]) ++ l.map itoa).flatMap (fun x => 32 :: x) := by
    unfold lineB numsT
    rw [List.flatMap_append, List.append_assoc, List.flatMap_map]
    cases name <;> simp
  rw [e, cut_flat]
  intro x hx
  rcases List.mem_cons.1 hx with rfl | hx
  · exact h1
  rcases List.mem_append.1 hx with hx | hx
  · cases name with
    | nil => simp at hx
    | cons a t => simp at hx; subst hx; exact h2
  · obtain ⟨n, _, rfl⟩ := List.mem_map.1 hx
    exact itoa_no (by decide)
theorem lineB_no {word name : List UInt8} {l : List Int} (h1 : (10 : UInt8) ∉ word) (h2 : (10 : UInt8) ∉ name) : (10 : UInt8) ∉ lineB word name l := by
  unfold lineB numsT
  intro h
  rcases List.mem_append.1 h with h | h
  · rcases List.mem_append.1 h with h | h
    · exact h1 h
    · cases name with
      | nil => simp at h
      | cons a t => simp only [List.isEmpty_cons, cond_false] at h; rcases List.mem_cons.1 h with h | h
                    · revert h; decide
                    · exact h2 h
  · obtain ⟨n, _, hn⟩ := List.mem_flatMap.1 h
    rcases List.mem_cons.1 hn with h | h
    · revert h; decide
    · exact itoa_no (by decide) h
theorem no_of {l : List UInt8} (h : ∀ b ∈ l, 45 ≤ b.toNat) {s : UInt8} (hs : s.toNat < 45) : s ∉ l := fun hm => by have := h s hm; omega
theorem ptsN_get : ∀ (l : List Pt) (j : Nat), j < l.length → (ptsN l).getD (2 * j) 0 = (l.getD j default).x ∧ (ptsN l).getD (2 * j + 1) 0 = (l.getD j default).y
  | p :: l, 0, _ => by simp [ptsN]
  | p :: l, j + 1, h => by
    have := ptsN_get l j (by simpa using h)
    have e : ptsN (p :: l) = p.x :: p.y :: ptsN l := by simp [ptsN]
    rw [e, show 2 * (j + 1) = 2 * j + 1 + 1 by omega]
    simpa using this
theorem regN_back (r : Reg) : regN (nmL r.name) (regNs r) = r := by
  obtain ⟨name, kind, cs⟩ := r
  unfold regN regNs
  have e : ((kind :: ptsN cs).length - 1) / 2 = cs.length := by
    rw [List.length_cons, ptsN_len]; omega
  simp only at e ⊢
  rw [e, bs_nmL]
  congr 1
  apply List.ext_getElem
  · rw [cornN_len]
  · intro j h1 h2
    obtain ⟨g1, g2⟩ := ptsN_get cs j h2
    simp only [cornN, List.getElem_map, List.getElem_range]
    rw [show 2 * j + 1 = (2 * j) + 1 from rfl, show 2 * j + 2 = (2 * j + 1) + 1 from rfl, List.getD_cons_succ, List.getD_cons_succ, g1, g2, getD_of h2]
theorem step_chan {c : Chan} (v : TxC c) : stepL 0 zeroC (cutL 32 (chanB' c)) = some { zeroC with name := c.name, over := c.over, buffer := c.buffer } := by
  unfold chanB'
  rw [lineB_cut (by decide) (no_of v.bytes (by decide))]
  have hn : (nmL c.name).isEmpty = false := by
    have := v.name; have := nmL_size c.name
    cases h : nmL c.name with
    | nil => rw [h] at this; simp at this; omega
    | cons _ _ => rfl
  rw [hn]
  have e := numsP_itoa (l := [c.over, c.buffer]) (by
    intro n hn
    simp only [List.mem_cons, List.not_mem_nil, or_false] at hn
    rcases hn with rfl | rfl
    · exact v.over
    · exact v.buffer)
  unfold stepL
  simp only [cond_false, List.map_cons, List.map_nil, List.cons_append, List.nil_append] at e ⊢
  simp [hn, e, bs_nmL]
theorem step_ax {d : Chan} {a : Ap} {i : Nat} (hi : 1 ≤ i) (hd : d.regions = []) (ha : ∀ n ∈ apN a, sm8 n) : stepL i d (cutL 32 (axB a)) = some { d with axis := d.axis ++ [a] } := by
  unfold axB
  rw [lineB_cut (by decide) (by simp)]
  have e := numsP_itoa ha
  simp only [apN, List.map_cons, List.map_nil] at e
  unfold stepL
  have h0 : (i == 0) = false := by rw [beq_eq_false_iff_ne]; omega
  rw [h0, hd]
  simp [e, apN, apOf]
theorem step_reg {d : Chan} {r : Reg} {i : Nat} (hi : 1 ≤ i) (h1 : 1 ≤ r.name.size) (h2 : ∀ b ∈ nmL r.name, 45 ≤ b.toNat) (ha : ∀ n ∈ regNs r, sm8 n) : stepL i d (cutL 32 (regB r)) = some { d with regions := d.regions ++ [r] } := by
  unfold regB
  rw [lineB_cut (by decide) (no_of h2 (by decide))]
  have hn : (nmL r.name).isEmpty = false := by
    have := nmL_size r.name
    cases h : nmL r.name with
    | nil => rw [h] at this; simp at this; omega
    | cons _ _ => rfl
  rw [hn]
  have e := numsP_itoa ha
  unfold stepL
  have h0 : (i == 0) = false := by rw [beq_eq_false_iff_ne]; omega
  rw [h0]
  have hw : (regW == axW) = false := by decide
  have hl : ((regW :: ([nmL r.name] ++ (regNs r).map itoa)).length % 2 == 1) = true := by
    have := ptsN_len r.corners
    simp [regNs, this]; omega
  have hl3 : decide (3 ≤ (regW :: ([nmL r.name] ++ (regNs r).map itoa)).length) = true := by
    simp [regNs]
  simp only [cond_false] at hl hl3 ⊢
  rw [hl, hl3]
  simp [hw, hn, e, regN_back]
theorem par_ax : ∀ (al : List Ap) (d : Chan) (i : Nat) (t : List (List UInt8)), 1 ≤ i → d.regions = [] → (∀ a ∈ al, ∀ n ∈ apN a, sm8 n) → t ≠ [] → parL i d (al.map axB ++ t) = parL (i + al.length) { d with axis := d.axis ++ al } t
  | [], d, i, t, _, _, _, _ => by simp
  | a :: al, d, i, t, hi, hd, ha, ht => by
    rw [List.map_cons, List.cons_append, parL_cons (by simp [ht]), step_ax hi hd (ha a List.mem_cons_self)]
    simp only
    rw [par_ax al _ (i + 1) t (by omega) (by exact hd) (fun x hx => ha x (List.mem_cons_of_mem _ hx)) ht]
    rw [show i + (a :: al).length = i + 1 + al.length by rw [List.length_cons]; omega]
    simp
theorem par_reg : ∀ (rs : List Reg) (d : Chan) (i : Nat) (t : List (List UInt8)), 1 ≤ i → (∀ r ∈ rs, 1 ≤ r.name.size ∧ (∀ b ∈ nmL r.name, 45 ≤ b.toNat) ∧ ∀ n ∈ regNs r, sm8 n) → t ≠ [] → parL i d (rs.map regB ++ t) = parL (i + rs.length) { d with regions := d.regions ++ rs } t
  | [], d, i, t, _, _, _ => by simp
  | r :: rs, d, i, t, hi, ha, ht => by
    obtain ⟨h1, h2, h3⟩ := ha r List.mem_cons_self
    rw [List.map_cons, List.cons_append, parL_cons (by simp [ht]), step_reg hi h1 h2 h3]
    simp only
    rw [par_reg rs _ (i + 1) t (by omega) (fun x hx => ha x (List.mem_cons_of_mem _ hx)) ht]
    rw [show i + (r :: rs).length = i + 1 + rs.length by rw [List.length_cons]; omega]
    simp
theorem text_lines {c : Chan} (v : TxC c) : cutL 10 (textC c) = ([chanB' c] ++ c.axis.map axB ++ c.regions.map regB) ++ [[]] := by
  have e : textC c = joinS 10 ([chanB' c] ++ c.axis.map axB ++ c.regions.map regB) [] := by
    unfold textC textB textA joinS
    rw [List.take_length, List.take_length, List.flatMap_append, List.flatMap_append, List.flatMap_map, List.flatMap_map]
    simp
  rw [e, cutL_join]
  · intro x hx b hb e
    subst e
    rcases List.mem_append.1 hx with hx | hx
    · rcases List.mem_append.1 hx with hx | hx
      · simp at hx; subst hx
        exact lineB_no (by decide) (no_of v.bytes (by decide)) hb
      · obtain ⟨a, _, rfl⟩ := List.mem_map.1 hx
        exact lineB_no (by decide) (by simp) hb
    · obtain ⟨r, hr, rfl⟩ := List.mem_map.1 hx
      exact lineB_no (by decide) (no_of (v.rbytes r hr) (by decide)) hb
  · intro b hb; cases hb
theorem read_back {c : Chan} (v : TxC c) : parL 0 zeroC (cutL 10 (textC c)) = (some c, 0) := by
  rw [text_lines v]
  rw [List.append_assoc, List.append_assoc, List.singleton_append, parL_cons (by simp), step_chan v]
  simp only
  rw [par_ax _ _ _ _ (by omega) rfl v.aps (by simp), par_reg _ _ _ _ (by omega) (fun r hr => ⟨(v.rname r hr).1, v.rbytes r hr, v.regs r hr⟩) (by simp)]
  simp only [parL, List.isEmpty_nil, Bool.true_and]
  rw [show decide (0 < 0 + 1 + c.axis.length + c.regions.length) = true by simp; omega]
  simp [zeroC]
end Go.Ch

/- What an accepted channel is. -/
namespace Go.Ch
open Go Go.Ax Go.Proofs Go.Proofs.Tryz
set_option maxRecDepth 100000

theorem badFrom_all (s : ByteArray) : ∀ (n i : Nat), badFrom s n i = false → ∀ j, j < n → badC ((i + j : Nat) : Int) (u8 s (i + j)) = false
  | 0, _, _, _, h => absurd h (Nat.not_lt_zero _)
  | n + 1, i, h, j, hj => by
    simp only [badFrom, Bool.or_eq_false_iff] at h
    cases j with
    | zero => exact h.1
    | succ j =>
      have := badFrom_all s n (i + 1) h.2 j (by omega)
      rwa [show i + (j + 1) = i + 1 + j by omega]
theorem badC_byte {i c : Int} (h : badC i c = false) : 45 ≤ c := by
  unfold badC letter at h
  simp at h
  omega
theorem isName_tx {s : ByteArray} (h : isName s = true) : (1 ≤ s.size ∧ s.size ≤ 12) ∧ ∀ b ∈ nmL s, 45 ≤ b.toNat := by
  unfold isName at h
  simp only [Bool.and_eq_true, Bool.not_eq_true', Bool.or_eq_false_iff, decide_eq_false_iff_not] at h
  obtain ⟨⟨h1, h2⟩, h3⟩ := h
  refine ⟨by omega, fun b hb => ?_⟩
  obtain ⟨j, hj, rfl⟩ := List.mem_iff_getElem.1 hb
  have hj' : j < s.size := by rw [← nmL_size]; exact hj
  have := badC_byte (badFrom_all s _ 0 h3 j hj')
  rw [Nat.zero_add] at this
  unfold u8 at this
  have e : s[j]! = (nmL s)[j] := by
    have := bs_get (nmL s) j
    rw [bs_nmL] at this
    rw [this, List.getD_eq_getElem?_getD, List.getElem?_eq_getElem hj]; rfl
  rw [e] at this
  omega
theorem regErrF_all {l : List Reg} : ∀ (n i : Nat), regErrF l n i = 0 → ∀ j, j < n → regErr (l.getD (i + j) default) (l.take (i + j)) = 0
  | 0, _, _, _, h => absurd h (Nat.not_lt_zero _)
  | n + 1, i, h, j, hj => by
    unfold regErrF at h
    cases h0 : regErr (l.getD i default) (l.take i) != 0 with
    | true =>
      rw [h0, cond_true] at h
      rw [h] at h0; cases h0
    | false =>
      rw [h0, cond_false] at h
      cases j with
      | zero => simpa using h0
      | succ j =>
        have := regErrF_all n (i + 1) h j (by omega)
        rwa [show i + (j + 1) = i + 1 + j by omega]
theorem regErr_tx {r : Reg} {l : List Reg} (this : regErr r l = 0) : isName r.name = true ∧ (0 ≤ r.kind ∧ r.kind ≤ 3) ∧ r.corners.length ≤ 40 ∧ ∀ p ∈ r.corners, good p = true := by
  unfold regErr at this
  cases e1 : isName r.name with
  | false => rw [e1] at this; cases this
  | true =>
    rw [e1] at this
    cases e2 : l.any (fun q => sameS q.name r.name) with
    | true => rw [e2] at this; cases this
    | false =>
      rw [e2] at this
      cases e3 : within r.kind 0 3 with
      | false => rw [e3] at this; cases this
      | true =>
        rw [e3] at this
        have this : errPoly r.corners = 0 := this
        unfold errPoly at this
        cases e4 : decide ((r.corners.length : Int) < 3) with
        | true => rw [e4] at this; cases this
        | false =>
          rw [e4] at this
          cases e5 : decide ((r.corners.length : Int) > 40) with
          | true => rw [e5] at this; cases this
          | false =>
            rw [e5] at this
            cases e6 : r.corners.any (fun p => !good p) with
            | true => rw [e6] at this; cases this
            | false =>
              have g5 := decF e5
              rw [List.any_eq_false] at e6
              unfold within at e3
              simp at e3
              exact ⟨rfl, e3, by omega, fun p hp => by simpa using e6 p hp⟩
theorem errC_parts {c : Chan} (h : errC c = 0) : isName c.name = true ∧ c.regions.length ≤ 20 ∧ ∀ i, i < c.regions.length → regErr (c.regions.getD i default) (c.regions.take i) = 0 := by
  unfold errC at h
  cases h1 : isName c.name with
  | false => rw [h1] at h; cases h
  | true =>
    rw [h1] at h
    cases h2 : (!within c.over 0 1000 || !within c.buffer 0 100000) with
    | true => rw [h2] at h; cases h
    | false =>
      rw [h2] at h
      cases h3 : axErr c != 0 with
      | true =>
        have h : axErr c = 0 := by rw [h3] at h; exact h
        rw [h] at h3; cases h3
      | false =>
        rw [h3] at h
        cases h4 : decide ((c.regions.length : Int) > 20) with
        | true => rw [h4] at h; cases h
        | false =>
          rw [h4] at h
          have h : regErrF c.regions c.regions.length 0 = 0 := h
          refine ⟨rfl, by have := decF h4; omega, fun i hi => ?_⟩
          have := regErrF_all _ _ h i hi
          rwa [Nat.zero_add] at this
theorem good_b {p : Pt} (h : good p = true) : -1000000 ≤ p.x ∧ p.x ≤ 1000000 ∧ -1000000 ≤ p.y ∧ p.y ≤ 1000000 := by
  unfold good within at h
  simp at h
  omega
theorem TxC.of {c : Chan} (h : errC c = 0) : TxC c := by
  have v := val_of c h
  obtain ⟨h1, h2, h3⟩ := errC_parts h
  obtain ⟨n1, n2⟩ := isName_tx h1
  have hr : ∀ r ∈ c.regions, isName r.name = true ∧ (0 ≤ r.kind ∧ r.kind ≤ 3) ∧ r.corners.length ≤ 40 ∧ ∀ p ∈ r.corners, good p = true := by
    intro r hr
    obtain ⟨i, hi, rfl⟩ := List.mem_iff_getElem.1 hr
    have := h3 i hi
    rw [getD_of hi] at this
    exact regErr_tx this
  refine ⟨n1, n2, by have := v.over; show _ < _; omega, by have := v.buffer; show _ < _; omega, v.n20, fun a ha n hn => ?_, h2, fun r q => (isName_tx (hr r q).1).1, fun r q => (isName_tx (hr r q).1).2, fun r q => (hr r q).2.2.1, fun r q n hn => ?_⟩
  · obtain ⟨i, hi, rfl⟩ := List.mem_iff_getElem.1 ha
    have g1 := good_b (v.pts i hi); have g2 := v.half i hi; have g3 := v.level i hi; have g4 := v.run i hi; have g5 := v.over
    rw [getD_of hi] at g1 g2 g3 g4
    simp only [Ap.pt] at g1
    simp only [apN, List.mem_cons, List.not_mem_nil, or_false] at hn
    show _ < _
    rcases hn with rfl | rfl | rfl | rfl | rfl <;> omega
  · obtain ⟨_, q2, _, q4⟩ := hr r q
    show _ < _
    rcases List.mem_cons.1 hn with rfl | hn
    · omega
    · obtain ⟨p, hp, hn⟩ := List.mem_flatMap.1 hn
      have := good_b (q4 p hp)
      simp only [List.mem_cons, List.not_mem_nil, or_false] at hn
      rcases hn with rfl | rfl <;> omega
end Go.Ch

/- The reference's line and Print. -/
namespace Go.Ch
open Go Go.Ax Go.Proofs Go.Proofs.Tryz
set_option maxRecDepth 100000
set_option pp.maxSteps 400
set_option maxHeartbeats 1000000

theorem lineC_len {word name : List UInt8} {l : List Int} (hw : word.length ≤ 100) (hn : name.length ≤ 1000) (hl : l.length ≤ 1000) (h : ∀ n ∈ l, sm8 n) (k : Nat) : (lineB word name (l.take k)).length ≤ 20000 := by
  have := lineB_len (word := word) (name := name) (l := l.take k) (fun n hn => h n (List.mem_of_mem_take hn))
  have : (l.take k).length ≤ l.length := by rw [List.length_take]; omega
  omega
theorem rLine (word : List UInt8) (nm : ByteArray) (l : List Int) (hw : word.length ≤ 100) (hn : nm.size ≤ 1000) (hl : l.length ≤ 1000) (h : ∀ n ∈ l, sm8 n) : CallP Tryz.prog 53 [vT word, vS nm, vInts l] (vT (lineT word (nmL nm) l)) := by
  obtain ⟨name, rfl⟩ : ∃ name, nm = bs name := ⟨nmL nm, (bs_nmL nm).symm⟩
  rw [nmL_bs]
  rw [bs_size] at hn
  refine callP_of_aw (N := 32) Tryz.func53 rfl rfl Tryz.call53 tab_ok rfl rfl (fun cx href => ?_)
  refine AW.seq (ex.sound (rc := []) tab_ok mix href _ ?_)
  refine AW.seq (ex.sound (rc := []) tab_ok mix href _ ?_)
  have hb := fun k => lineC_len (word := word) (name := name) hw hn hl h k
  refine AW.cut (σ' := ⟨[(2, vInts l), (7, vT (lineB word name (l.take 0)))], []⟩) ?_ ?_
  · refine ex.sound (rc := []) tab_ok mix href _ ?_
    refine And.intro (fun h1 => ?_) (fun h1 => ?_)
    · have h1 : (!((bs name).toList == (bs []).toList)) = true := h1
      rw [bs_beq] at h1
      refine oi (show (bs [32]).size + (bs name).size ≤ 9223372036854775807 by rw [bs_size, bs_size]; simp only [List.length_cons, List.length_nil]; omega) ?_
      refine oi (show (bs word).size + (bs [32] ++ bs name).size ≤ 9223372036854775807 by rw [bs_add, bs_size, bs_size]; simp only [List.length_append, List.length_cons, List.length_nil]; omega) ?_
      refine ⟨rfl, SubI.of0 href [] rfl trivial ⟨⟨rfl, LeQ.rfl⟩, ⟨rfl, LeQ.of_eq ?_⟩, trivial⟩⟩
      show AV.s (.d (.val (.string (bs word ++ (bs [32] ++ bs name))))) = vT (lineB word name (l.take 0))
      rw [bs_add, bs_add]
      have : name.isEmpty = false := by simpa using h1
      simp [lineB, this, numsT]
    · have h1 : (!((bs name).toList == (bs []).toList)) = false := h1
      rw [bs_beq] at h1
      refine ⟨rfl, SubI.of0 href [] rfl trivial ⟨⟨rfl, LeQ.rfl⟩, ⟨rfl, LeQ.of_eq ?_⟩, trivial⟩⟩
      have : name.isEmpty = true := by simpa using h1
      simp [lineB, this, numsT]
      rfl
  refine AW.seq ?_
  refine AW.seq (ex.sound (rc := []) tab_ok mix href _ ?_)
  refine AW.block ?_
  refine AW.loopI (fun i : Nat => ⟨[(2, vInts l), (7, vT (lineB word name (l.take i))), (8, vI i)], []⟩) (fun i => i ≤ l.length) (fun i => l.length - i) 0 (Nat.zero_le _) ?_ ?_
  · exact SubI.of0 href [] rfl trivial ⟨⟨rfl, LeQ.rfl⟩, ⟨rfl, LeQ.rfl⟩, ⟨rfl, LeQ.rfl⟩, trivial⟩
  · intro i hi
    have hbi := hb i
    refine ex.sound (rc := []) tab_ok mix href _ ?_
    refine And.intro (fun h1 => ?_) (fun h1 => ?_)
    · have h1 : (i : Int) < (l.length : Int) := decT h1
      have hi' : i < l.length := by omega
      have hm : l.getD i 0 ∈ l := by
        rw [List.getD_eq_getElem?_getD, List.getElem?_eq_getElem hi']; exact List.getElem_mem hi'
      have h8 : (l.getD i 0).natAbs < 100000000 := h _ hm
      have hl8 := itoa_len8 h8
      refine oi (show 0 ≤ (i : Int) ∧ (i : Int) < (l.length : Int) by omega) ?_
      refine callN (Decimal (l.getD i 0) (by omega) (by omega)) ?_
      refine oi (show (bs [32]).size + (bs (Lib.itoa (l.getD i 0))).size ≤ 9223372036854775807 by rw [bs_size, bs_size]; simp only [List.length_cons, List.length_nil]; omega) ?_
      refine oi (show (bs (lineB word name (l.take i))).size + (bs [32] ++ bs (Lib.itoa (l.getD i 0))).size ≤ 9223372036854775807 by rw [bs_add, bs_size, bs_size]; simp only [List.length_append, List.length_cons, List.length_nil]; omega) ?_
      refine ⟨i + 1, by omega, by omega, SubI.of0 href [] rfl trivial ⟨⟨rfl, LeQ.rfl⟩, ⟨rfl, LeQ.of_eq ?_⟩, ⟨rfl, LeQ.int (w64_of (by omega) (by omega))⟩, trivial⟩⟩
      show AV.s (.d (.val (.string (bs (lineB word name (l.take i)) ++ (bs [32] ++ bs (Lib.itoa (l.getD i 0))))))) = vT (lineB word name (l.take (i + 1)))
      rw [bs_add, bs_add]
      unfold lineB
      rw [numsT_succ l hi']
      simp
    · have h1 : ¬ (i : Int) < (l.length : Int) := decF h1
      obtain rfl : i = l.length := by omega
      rw [List.take_length]
      rw [List.take_length] at hbi
      refine ex.sound (rc := []) tab_ok mix href _ ?_
      refine oi (show (bs (lineB word name l)).size + (bs [10]).size ≤ 9223372036854775807 by rw [bs_size, bs_size]; simp only [List.length_cons, List.length_nil]; omega) ?_
      refine SubR.of_eq ?_
      show AV.s (.d (.val (.string (bs (lineB word name l) ++ bs [10])))) = _
      rw [bs_add]; rfl

theorem ptsN_take (l : List Pt) {k : Nat} (h : k < l.length) : ptsN (l.take (k + 1)) = ptsN (l.take k) ++ [(l.getD k default).x, (l.getD k default).y] := by
  unfold ptsN
  rw [List.take_succ_eq_append_getElem h, List.flatMap_append, getD_of h]
  simp
theorem intRow0 {l : List Int} : RowIs 1 l.length (intEl l) (fun x _ => dI x) l := ⟨rfl, fun _ _ _ _ => rfl⟩
theorem intRow2 {l : List Int} {n : Nat} {f : Nat → Nat → DV} {x y : Int} {g : Nat → Nat → DV} (h : RowIs 1 n f (fun x _ => dI x) l) (h0 : g 0 0 = dI x) (h1 : g 1 0 = dI y) : RowIs 1 (n + 2) (catF n f g) (fun x _ => dI x) (l ++ [x, y]) := by
  obtain ⟨rfl, h⟩ := h
  refine ⟨by simp, fun i j hi hj => ?_⟩
  obtain rfl : j = 0 := by omega
  unfold catF
  by_cases hl : i < l.length
  · rw [if_pos hl, h i 0 hl hj]
    simp only [List.getD_eq_getElem?_getD, List.getElem?_append_left hl]
  · rw [if_neg hl]
    rcases (show i = l.length ∨ i = l.length + 1 by omega) with rfl | rfl
    · rw [Nat.sub_self, h0]
      simp [List.getD]
    · rw [Nat.add_sub_cancel_left, h1]
      simp [List.getD]
theorem rPrint (c : Chan) (v : TxC c) : CallP Tryz.prog 20 [chan c] (vT (textC c)) := by
  have v1 := v.name
  have hA := v.a_len
  have hB := v.b_len
  refine callP_of_aw (N := 88) Tryz.func20 rfl rfl Tryz.call20 tab_ok rfl rfl (fun cx href => ?_)
  refine AW.seq (ex.sound (rc := []) tab_ok mix href _ ?_)
  refine AW.seq (ex.sound (rc := []) tab_ok mix href _ ?_)
  refine callN ((rLine chanW c.name [c.over, c.buffer] (by decide) (by omega) (by show 2 ≤ 1000; decide) ?_).conv (args' := _) ⟨LeD.refl _, LeD.refl _, LeD.slc' rfl (fun i j hi hj => LeD.of_eq ?_), trivial⟩) ?_
  · intro n hn
    simp only [List.mem_cons, List.not_mem_nil, or_false] at hn
    rcases hn with rfl | rfl
    · exact v.over
    · exact v.buffer
  · obtain rfl : j = 0 := by have : j < 1 := hj; omega
    match i, hi with
    | 0, _ => rfl
    | 1, _ => rfl
  have e0 : lineT chanW (nmL c.name) [c.over, c.buffer] = textA c 0 := by simp [textA, chanB', lineT]
  rw [e0]
  refine AW.seq ?_
  refine AW.seq (ex.sound (rc := []) tab_ok mix href _ ?_)
  refine AW.block ?_
  refine AW.loopI (fun i : Nat => ⟨[(1, .s (.ptr 1 0)), (3, vT (textA c i)), (4, vI i)], [(1, some (chanB c))]⟩) (fun i => i ≤ c.axis.length) (fun i => c.axis.length - i) 0 (Nat.zero_le _) ?_ ?_
  · exact SubI.of0 href [] rfl ⟨⟨rfl, LeBx.rfl⟩, trivial⟩ ⟨⟨rfl, LeQ.rfl⟩, ⟨rfl, LeQ.rfl⟩, ⟨rfl, LeQ.rfl⟩, trivial⟩
  · intro i hi
    have hn20 := v.axn
    refine ex.sound (rc := []) tab_ok mix href _ ?_
    refine And.intro (fun h => ?_) (fun h => ?_)
    · have h : (i : Int) < (c.axis.length : Int) := decT h
      have hi' : i < c.axis.length := by omega
      refine oi (show 0 ≤ (i : Int) ∧ (i : Int) < (c.axis.length : Int) by omega) ?_
      have hm : c.axis.getD i default ∈ c.axis := by rw [getD_of hi']; exact List.getElem_mem hi'
      refine callN ((rLine axW ⟨#[]⟩ (apN (c.axis.getD i default)) (by decide) (by decide) (by show 5 ≤ 1000; decide) (v.aps _ hm)).conv (args' := _) ⟨LeD.refl _, LeD.refl _, LeD.slc' rfl (fun i j hi hj => LeD.of_eq ?_), trivial⟩) ?_
      · obtain rfl : j = 0 := by have : j < 1 := hj; omega
        match i, hi with
        | 0, _ => rfl
        | 1, _ => rfl
        | 2, _ => rfl
        | 3, _ => rfl
        | 4, _ => rfl
      have hs := textA_succ c hi'
      have h1 := hA i
      have h2 := hA (i + 1)
      have e1 : lineT axW (nmL ⟨#[]⟩) (apN (c.axis.getD i default)) = axB (c.axis.getD i default) ++ [10] := rfl
      rw [e1]
      rw [hs, List.length_append] at h2
      refine oi (show (bs (textA c i)).size + (bs (axB (c.axis.getD i default) ++ [10])).size ≤ 9223372036854775807 by rw [bs_size, bs_size]; omega) ?_
      refine ⟨i + 1, by omega, by omega, SubI.of0 href [] rfl ⟨⟨rfl, LeBx.rfl⟩, trivial⟩ ⟨⟨rfl, LeQ.rfl⟩, ⟨rfl, LeQ.of_eq ?_⟩, ⟨rfl, LeQ.int (w64_of (by omega) (by omega))⟩, trivial⟩⟩
      show AV.s (.d (.val (.string (bs (textA c i) ++ bs (axB (c.axis.getD i default) ++ [10]))))) = vT (textA c (i + 1))
      rw [bs_add, hs]
    · have h : ¬ (i : Int) < (c.axis.length : Int) := decF h
      obtain rfl : i = c.axis.length := by omega
      have e2 : textA c c.axis.length = textB c 0 := by simp [textB]
      rw [e2]
      refine AW.seq ?_
      refine AW.seq (ex.sound (rc := []) tab_ok mix href _ ?_)
      refine AW.block ?_
      refine AW.loopI (fun i : Nat => ⟨[(1, .s (.ptr 1 0)), (3, vT (textB c i)), (6, vI i)], [(1, some (chanB c))]⟩) (fun i => i ≤ c.regions.length) (fun i => c.regions.length - i) 0 (Nat.zero_le _) ?_ ?_
      · exact SubI.of0 href [] rfl ⟨⟨rfl, LeBx.rfl⟩, trivial⟩ ⟨⟨rfl, LeQ.rfl⟩, ⟨rfl, LeQ.rfl⟩, ⟨rfl, LeQ.rfl⟩, trivial⟩
      · intro i hi
        have hr20 := v.regn
        refine AW.seq (ex.sound (rc := []) tab_ok mix href _ ?_)
        refine And.intro (fun h => ?_) (fun h => ?_)
        · have h : (i : Int) < (c.regions.length : Int) := decT h
          have hi' : i < c.regions.length := by omega
          have hm : c.regions.getD i default ∈ c.regions := by rw [getD_of hi']; exact List.getElem_mem hi'
          have g1 := v.rname _ hm
          have g2 := v.corners _ hm
          have g3 := v.regs _ hm
          have hs := textB_succ c hi'
          have b1 := hB i
          have b2 := hB (i + 1)
          rw [hs, List.length_append] at b2
          refine AW.seq (AW.block (AW.seq (ex.sound (rc := []) tab_ok mix href _ ?_)))
          refine oi (show 0 ≤ (i : Int) ∧ (i : Int) < (c.regions.length : Int) by omega) ?_
          refine AW.seq (ex.sound (rc := []) tab_ok mix href _ ?_)
          refine AW.seq ?_
          refine AW.seq (ex.sound (rc := []) tab_ok mix href _ ?_)
          refine AW.block ?_
          refine AW.loopI (fun k : Nat => ⟨[(1, .s (.ptr 1 0)), (3, vT (textB c i)), (6, vI i), (7, .s (.ptr 7 0)), (8, .s (.own 100)), (9, vI k)],
              [(1, some (chanB c)), (7, some (.cells [.d (dS (c.regions.getD i default).name), .d (dI (c.regions.getD i default).kind), .d (dPts (c.regions.getD i default).corners)])), (100, some (.row 3 ((c.regions.getD i default).kind :: ptsN ((c.regions.getD i default).corners.take k)).length 1 (intEl ((c.regions.getD i default).kind :: ptsN ((c.regions.getD i default).corners.take k)))))]⟩)
            (fun k => k ≤ (c.regions.getD i default).corners.length) (fun k => (c.regions.getD i default).corners.length - k) 0 (Nat.zero_le _) ?_ ?_
          · refine SubI.of0 href [(100, 58)] rfl ⟨⟨rfl, LeBx.rfl⟩, ⟨rfl, LeBx.rfl⟩, ⟨rfl, LeBx.row rfl fun i' j hi' hj => LeD.of_eq (by
              obtain rfl : i' = 0 := by omega
              obtain rfl : j = 0 := by have : j < 1 := hj; omega
              rfl)⟩, trivial⟩ ⟨⟨rfl, LeQ.rfl⟩, ⟨rfl, LeQ.rfl⟩, ⟨rfl, LeQ.rfl⟩, ⟨rfl, LeQ.rfl⟩, ⟨rfl, LeQ.rfl⟩, ⟨rfl, LeQ.rfl⟩, trivial⟩
          · intro k hk
            have hpl := ptsN_len ((c.regions.getD i default).corners.take k)
            have htl : ((c.regions.getD i default).corners.take k).length = k := by rw [List.length_take]; omega
            refine ex.sound (rc := []) tab_ok mix href _ ?_
            refine And.intro (fun h3 => ?_) (fun h3 => ?_)
            · have h3 : (k : Int) < ((c.regions.getD i default).corners.length : Int) := decT h3
              have hk' : k < (c.regions.getD i default).corners.length := by omega
              refine oi (show 0 ≤ (k : Int) ∧ (k : Int) < ((c.regions.getD i default).corners.length : Int) by omega) ?_
              refine oi (show 0 ≤ (k : Int) ∧ (k : Int) < ((c.regions.getD i default).corners.length : Int) by omega) ?_
              refine ob (by show (((c.regions.getD i default).kind :: ptsN ((c.regions.getD i default).corners.take k)).length + 2) * 8 ≤ _; rw [List.length_cons, hpl, htl]; omega) ?_
              refine ob (fun a j ha hj => by
                match a, ha with
                | 0, _ => match j, hj with | 0, _ => rfl
                | 1, _ => match j, hj with | 0, _ => rfl) ?_
              refine And.intro (by kernel_rfl) ?_
              refine ⟨k + 1, by omega, by omega, ?_⟩
              refine SubI.of0 href [(100, 80)] rfl ⟨⟨rfl, LeBx.rfl⟩, ⟨rfl, LeBx.rfl⟩, ⟨rfl, ?_⟩, trivial⟩ ⟨⟨rfl, LeQ.rfl⟩, ⟨rfl, LeQ.rfl⟩, ⟨rfl, LeQ.rfl⟩, ⟨rfl, LeQ.rfl⟩, ⟨rfl, LeQ.rfl⟩, ⟨rfl, LeQ.int (w64_of (by omega) (by omega))⟩, trivial⟩
              show LeBx _ (.row 3 ((c.regions.getD i default).kind :: ptsN ((c.regions.getD i default).corners.take (k + 1))).length 1 (intEl ((c.regions.getD i default).kind :: ptsN ((c.regions.getD i default).corners.take (k + 1)))))
              rw [ptsN_take _ hk', ← List.cons_append]
              exact RowIs.row (el := fun x _ => dI x) (intRow2 intRow0 rfl rfl)
            · have h3 : ¬ (k : Int) < ((c.regions.getD i default).corners.length : Int) := decF h3
              obtain rfl : k = (c.regions.getD i default).corners.length := by omega
              rw [List.take_length] at hpl ⊢
              refine ex.sound (rc := []) tab_ok mix href _ ?_
              refine callN ((rLine regW (c.regions.getD i default).name (regNs (c.regions.getD i default)) (by decide) (by omega) (by show (ptsN (c.regions.getD i default).corners).length + 1 ≤ 1000; omega) g3).conv (args' := _) ⟨LeD.refl _, LeD.refl _, LeD.refl _, trivial⟩) ?_
              have e1 : lineT regW (nmL (c.regions.getD i default).name) (regNs (c.regions.getD i default)) = regB (c.regions.getD i default) ++ [10] := rfl
              rw [e1]
              refine oi (show (bs (textB c i)).size + (bs (regB (c.regions.getD i default) ++ [10])).size ≤ 9223372036854775807 by rw [bs_size, bs_size]; omega) ?_
              refine ex.sound (rc := []) tab_ok mix href _ ?_
              refine ⟨i + 1, by omega, by omega, SubI.of0 href [] rfl ⟨⟨rfl, LeBx.rfl⟩, trivial⟩ ⟨⟨rfl, LeQ.rfl⟩, ⟨rfl, LeQ.of_eq ?_⟩, ⟨rfl, LeQ.int (w64_of (by omega) (by omega))⟩, trivial⟩⟩
              show AV.s (.d (.val (.string (bs (textB c i) ++ bs (regB (c.regions.getD i default) ++ [10]))))) = vT (textB c (i + 1))
              rw [bs_add, hs]
        · have h : ¬ (i : Int) < (c.regions.length : Int) := decF h
          obtain rfl : i = c.regions.length := by omega
          refine ex.sound (rc := []) tab_ok mix href _ ?_
          exact SubR.refl _
end Go.Ch

/- Parsing, case by case. No program in this text. -/
namespace Go.Ch
open Go Go.Ax Go.Proofs Go.Proofs.Tryz
set_option maxRecDepth 100000

def stepS (ok : Bool) (i : Nat) (d : Chan) (W : List (List UInt8)) : Option Chan := bif ok then stepL i d W else none
theorem stepS_A {ok : Bool} {i : Nat} {d : Chan} {W : List (List UInt8)} (hi : i = 0) {b : Bool} (h : (((ok && W.getD 0 [] == chanW) && W.length == 4) && !(W.getD 1 []).isEmpty) = b) :
    stepS ok i d W = bif b then (match numsP (W.drop 2) with
      | some n => some { d with name := bs (W.getD 1 []), over := n.getD 0 0, buffer := n.getD 1 0 }
      | none => none) else none := by
  subst hi
  unfold stepS stepL
  rw [← h]
  cases ok
  · simp
  · cases W.getD 0 [] == chanW
    · simp
    · cases W.length == 4
      · simp
      · simp only [beq_self_eq_true, cond_true, Bool.true_and]
        all_goals (cases !(W.getD 1 []).isEmpty <;> first | rfl | (cases numsP (W.drop 2) <;> rfl))
theorem stepS_B {ok : Bool} {i : Nat} {d : Chan} {W : List (List UInt8)} (hi : i ≠ 0) (h : (W.getD 0 [] == axW && d.regions.isEmpty) = true) {b : Bool} (hb : ((ok && (numsP (W.drop 1)).isSome) && (numsL (W.drop 1)).length == 5) = b) :
    stepS ok i d W = bif b then some { d with axis := d.axis ++ [apOf (numsL (W.drop 1))] } else none := by
  have h0 : (i == 0) = false := by rw [beq_eq_false_iff_ne]; exact hi
  unfold stepS stepL
  rw [h0, h, ← hb]
  unfold numsL
  cases ok
  · simp
  · cases numsP (W.drop 1) with
    | none => simp
    | some n => simp
theorem stepS_C {ok : Bool} {i : Nat} {d : Chan} {W : List (List UInt8)} (hi : i ≠ 0) (h : (W.getD 0 [] == axW && d.regions.isEmpty) = false) (h2 : (W.getD 0 [] == regW) = true) {b : Bool}
    (hb : (((ok && decide (3 ≤ W.length)) && W.length % 2 == 1) && !(W.getD 1 []).isEmpty) = b) :
    stepS ok i d W = bif b then (match numsP (W.drop 2) with
      | some n => some { d with regions := d.regions ++ [regN (W.getD 1 []) n] }
      | none => none) else none := by
  have h0 : (i == 0) = false := by rw [beq_eq_false_iff_ne]; exact hi
  unfold stepS stepL
  rw [h0, h, h2, ← hb]
  cases ok
  · simp
  · simp only [cond_true, cond_false, Bool.true_and, Bool.and_assoc]
    all_goals (cases decide (3 ≤ W.length) && (W.length % 2 == 1 && !(W.getD 1 []).isEmpty) <;> first | rfl | (cases numsP (W.drop 2) <;> rfl))
theorem stepS_D {ok : Bool} {i : Nat} {d : Chan} {W : List (List UInt8)} (hi : i ≠ 0) (h : (W.getD 0 [] == axW && d.regions.isEmpty) = false) (h2 : (W.getD 0 [] == regW) = false) : stepS ok i d W = none := by
  have h0 : (i == 0) = false := by rw [beq_eq_false_iff_ne]; exact hi
  unfold stepS stepL
  rw [h0, h, h2]
  cases ok <;> simp
theorem parL_drop {i : Nat} {d : Chan} {L : List (List UInt8)} (hi : i + 1 < L.length) : parL i d (L.drop i) = match stepL i d (cutL 32 (L.getD i [])) with
    | some e => parL (i + 1) e (L.drop (i + 1))
    | none => (none, i + 1) := by
  rw [List.drop_eq_getElem_cons (show i < L.length by omega), parL_cons (by rw [ne_eq, List.drop_eq_nil_iff]; omega)]
  rw [show L[i] = L.getD i [] by rw [List.getD_eq_getElem?_getD, List.getElem?_eq_getElem (show i < L.length by omega)]; rfl]
  all_goals (cases stepL i d (cutL 32 (L.getD i [])) <;> rfl)
theorem parL_last {i : Nat} {d : Chan} {L : List (List UInt8)} (hi : i + 1 = L.length) : parL i d (L.drop i) = bif (L.getD i []).isEmpty && decide (0 < i) then (some d, 0) else (none, i + 1) := by
  rw [List.drop_eq_getElem_cons (show i < L.length by omega)]
  have : L.drop (i + 1) = [] := by rw [List.drop_eq_nil_iff]; omega
  rw [this]
  rw [show L[i] = L.getD i [] by rw [List.getD_eq_getElem?_getD, List.getElem?_eq_getElem (show i < L.length by omega)]; rfl]
  rfl
/-- Sizes of what has been read. -/
structure PS (m i : Nat) (d : Chan) : Prop where
  name : d.name.size ≤ m
  axis : d.axis.length ≤ i
  aps : ∀ a ∈ d.axis, a.ok
  over : i64ok d.over
  buffer : i64ok d.buffer
  regions : d.regions.length ≤ i
  regs : ∀ r ∈ d.regions, r.name.size ≤ m ∧ i64ok r.kind ∧ r.corners.length ≤ m ∧ ∀ p ∈ r.corners, p.ok
theorem sm8_of_nums : ∀ {ws : List (List UInt8)} {l : List Int}, numsP ws = some l → ∀ n ∈ l, sm8 n
  | [], l, h, n, hn => by simp [numsP] at h; subst h; cases hn
  | w :: t, l, h, n, hn => by
    simp only [numsP] at h
    split at h
    · rename_i m l' h1 h2
      cases h
      rcases List.mem_cons.1 hn with rfl | hn
      · exact (numP_iff.1 h1).1
      · exact sm8_of_nums h2 n hn
    · cases h
theorem i64_of_sm8 {n : Int} (h : sm8 n) : i64ok n := by
  have : n.natAbs < 100000000 := h
  show (decide (-9223372036854775808 ≤ n) && decide (n ≤ 9223372036854775807)) = true
  simp
  omega
theorem getD_sm8 {l : List Int} (h : ∀ n ∈ l, sm8 n) (k : Nat) : i64ok (l.getD k 0) := by
  rw [List.getD_eq_getElem?_getD]
  cases hk : l[k]? with
  | none => exact i64_of_sm8 (by decide)
  | some x => exact i64_of_sm8 (h x (List.mem_of_getElem? hk))
theorem PS.zero (m : Nat) : PS m 0 zeroC := ⟨Nat.zero_le _, Nat.le_refl _, (fun _ h => nomatch h), by decide, by decide, Nat.le_refl _, (fun _ h => nomatch h)⟩
theorem PS.step {m i : Nat} {d e : Chan} {W : List (List UInt8)} (h : PS m i d) (hs : stepL i d W = some e) (hW : W.length ≤ m) (hw : (W.getD 1 []).length ≤ m) : PS m (i + 1) e := by
  obtain ⟨p1, p2, p3, p4, p5, p6, p7⟩ := h
  unfold stepL at hs
  cases h0 : (i == 0) with
  | true =>
    rw [h0, cond_true] at hs
    cases h1 : (W.getD 0 [] == chanW && (W.length == 4 && !(W.getD 1 []).isEmpty)) with
    | false => rw [h1] at hs; cases hs
    | true =>
      rw [h1, cond_true] at hs
      cases hn : numsP (W.drop 2) with
      | none => rw [hn] at hs; cases hs
      | some n =>
        rw [hn] at hs
        cases hs
        have hs8 := sm8_of_nums hn
        exact ⟨by rw [bs_size]; exact hw, by simp only; omega, p3, getD_sm8 hs8 0, getD_sm8 hs8 1, by simp only; omega, p7⟩
  | false =>
    rw [h0, cond_false] at hs
    cases h1 : (W.getD 0 [] == axW && d.regions.isEmpty) with
    | true =>
      rw [h1, cond_true] at hs
      cases hn : numsP (W.drop 1) with
      | none => rw [hn] at hs; cases hs
      | some n =>
        rw [hn] at hs
        simp only at hs
        cases h5 : n.length == 5 with
        | false => rw [h5] at hs; cases hs
        | true =>
          rw [h5] at hs
          cases hs
          have hs8 := sm8_of_nums hn
          refine ⟨p1, by simp only [List.length_append, List.length_cons, List.length_nil]; omega, fun a ha => ?_, p4, p5, by simp only; omega, p7⟩
          rcases List.mem_append.1 ha with ha | ha
          · exact p3 a ha
          · simp only [List.mem_cons, List.not_mem_nil, or_false] at ha
            subst ha
            exact ⟨getD_sm8 hs8 0, getD_sm8 hs8 1, getD_sm8 hs8 2, getD_sm8 hs8 3, getD_sm8 hs8 4⟩
    | false =>
      rw [h1, cond_false] at hs
      cases h2 : (W.getD 0 [] == regW && (decide (3 ≤ W.length) && (W.length % 2 == 1 && !(W.getD 1 []).isEmpty))) with
      | false => rw [h2] at hs; cases hs
      | true =>
        rw [h2, cond_true] at hs
        cases hn : numsP (W.drop 2) with
        | none => rw [hn] at hs; cases hs
        | some n =>
          rw [hn] at hs
          cases hs
          have hs8 := sm8_of_nums hn
          have hl := numsP_len hn
          rw [List.length_drop] at hl
          refine ⟨p1, by simp only; omega, p3, p4, p5, by simp only [List.length_append, List.length_cons, List.length_nil]; omega, fun r hr => ?_⟩
          rcases List.mem_append.1 hr with hr | hr
          · exact p7 r hr
          · simp only [List.mem_cons, List.not_mem_nil, or_false] at hr
            subst hr
            refine ⟨by show (bs _).size ≤ m; rw [bs_size]; exact hw, getD_sm8 hs8 0, by show (cornN _ _).length ≤ m; rw [cornN_len]; omega, fun p hp => ?_⟩
            simp only [regN, cornN, List.mem_map] at hp
            obtain ⟨j, _, rfl⟩ := hp
            exact ⟨getD_sm8 hs8 _, getD_sm8 hs8 _⟩
theorem PS.ok {m i : Nat} {d : Chan} (h : PS m i d) (hm : m ≤ 1000000) (hi : i ≤ 1000000) : d.ok := by
  have h2 := h.axis; have h6 := h.regions; have h1 := h.name
  exact ⟨by omega, by omega, h.aps, h.over, h.buffer, by omega, fun r hr => let ⟨q1, q2, q3, q4⟩ := h.regs r hr; ⟨by omega, q2, by omega, q4⟩⟩
end Go.Ch

/- The reference's Parse. -/
namespace Go.Ch
open Go Go.Ax Go.Proofs Go.Proofs.Tryz
set_option maxRecDepth 100000
set_option pp.maxSteps 400
set_option maxHeartbeats 4000000

abbrev cBox (d : Chan) : Box := .cells [.d (dS d.name), .mo d.axis.isEmpty 100, .d (dI d.over), .d (dI d.buffer), .mo d.regions.isEmpty 101]
abbrev axR (d : Chan) : Box := .mrow 98 d.axis.length 5 (apEl d.axis)
abbrev rgR (d : Chan) : Box := .mrow 90 d.regions.length 3 (regEl d.regions)
abbrev rP (s : List UInt8) : Option Chan × Nat := parL 0 zeroC (cutL 10 s)
def rpC (r : Option Chan × Nat) : Chan := match r with | (some c, _) => c | (none, _) => zeroC
def rpN (r : Option Chan × Nat) : Int := match r with | (some _, _) => 0 | (none, n) => n
theorem drop_conv {W : List (List UInt8)} {k : Nat} (hk : k ≤ W.length) : LeD (.slc ((W.length : Int) - (k : Int)).toNat 1 (fun i => (fun i _ => dT (W.getD i [])) ((k : Int).toNat + i))) (dTs (W.drop k)) := by
  refine LeD.slc' (by rw [List.length_drop]; omega) fun i j hi hj => LeD.of_eq ?_
  show dT (W.getD ((k : Int).toNat + i) []) = dT ((W.drop k).getD i [])
  rw [List.getD_eq_getElem?_getD, List.getD_eq_getElem?_getD, List.getElem?_drop]; rfl
theorem LeBx.snocR {α : Type} [Inhabited α] {e s : Nat} {l : List α} {x : α} {el : α → Nat → DV} {g : Nat → Nat → DV} (hg : ∀ j, j < s → g 0 j = el x j) :
    LeBx (.row e ((bif l.isEmpty then 0 else l.length) + 1) s (catF (bif l.isEmpty then 0 else l.length) (fun i => el (l.getD i default)) g)) (.mrow e (l ++ [x]).length s (fun i => el ((l ++ [x]).getD i default))) := RowIs.mrow (el := el) (RowIs.snoc RowIs.bif hg)
abbrev stR (L : List (List UInt8)) (i : Nat) (d : Chan) : St :=
  ⟨[(2, .s (.ptr 2 0)), (5, .s (.d (dTs L))), (6, .s (.ptr 6 0)), (7, vI i)], [(2, some (.cells (zvs ty41.zero))), (6, some (cBox d)), (100, some (axR d)), (101, some (rgR d))]⟩
theorem rParse (s : List UInt8) (hs : s.length ≤ 20000) : CallP Tryz.prog 22 [vT s] (.t [.g [.d (dS (rpC (rP s)).name), .d (dAps (rpC (rP s)).axis), .d (dI (rpC (rP s)).over), .d (dI (rpC (rP s)).buffer), .d (dRegs (rpC (rP s)).regions)], .s (.d (dI (rpN (rP s)))), .s (.d (.val (.bool (rP s).1.isNone)))]) := by
  refine callP_of_aw (N := 188) Tryz.func22 rfl rfl Tryz.call22 tab_ok rfl rfl (fun cx href => ?_)
  refine AW.seq (ex.sound (rc := []) tab_ok mix href _ ?_)
  refine AW.seq (ex.sound (rc := []) tab_ok mix href _ ?_)
  refine callN (Cut s 10 (by omega)) ?_
  obtain ⟨l1, l2⟩ := cutL_len 10 s
  have hel := fun w (h : w ∈ cutL 10 s) => cutL_elem h
  generalize hL : cutL 10 s = L at *
  have l3 := List.length_pos_iff.2 l1
  refine AW.seq (ex.sound (rc := []) tab_ok mix href _ ?_)
  refine AW.seq ?_
  refine AW.seq (ex.sound (rc := []) tab_ok mix href _ ?_)
  refine AW.block ?_
  refine AW.loopI (fun q : Nat × Chan => stR L q.1 q.2) (fun q => q.1 < L.length ∧ parL 0 zeroC L = parL q.1 q.2 (L.drop q.1) ∧ PS 20001 q.1 q.2) (fun q => L.length - q.1) (0, zeroC) ⟨l3, rfl, PS.zero _⟩ ?_ ?_
  · exact SubI.of0 href [] rfl ⟨⟨rfl, LeBx.rfl⟩, ⟨rfl, LeBx.cells ⟨LeQ.rfl, LeQ.nil rfl, LeQ.rfl, LeQ.rfl, LeQ.nil rfl, trivial⟩⟩, ⟨rfl, rfl⟩, ⟨rfl, rfl⟩, trivial⟩ ⟨⟨rfl, LeQ.rfl⟩, ⟨rfl, LeQ.rfl⟩, ⟨rfl, LeQ.rfl⟩, ⟨rfl, LeQ.rfl⟩, trivial⟩
  · rintro ⟨i, d⟩ ⟨hi, hp, ps⟩
    simp only at hi hp ps
    have hwl : w64 ((L.length : Int) - 1) = (L.length : Int) - 1 := w64_of (by omega) (by omega)
    have hm : L.getD i [] ∈ L := by
      rw [List.getD_eq_getElem?_getD, List.getElem?_eq_getElem hi]; exact List.getElem_mem hi
    have hwlen := hel _ hm
    refine AW.seq (ex.sound (rc := []) tab_ok mix href _ ?_)
    refine And.intro (fun h => ?_) (fun h => ?_)
    rotate_left
    · exfalso
      have h : ¬ (i : Int) < (L.length : Int) := decF h
      omega
    refine AW.seq (AW.block (AW.seq (ex.sound (rc := []) tab_ok mix href _ ?_)))
    repeat first | refine sk ?_ | refine st ?_ | refine sg ?_ | refine sh ?_ | refine su ?_ | refine sn1 ?_ | refine sn0 ?_ | refine And.intro (show imp none (gimp _ none) from trivial) ?_
    refine And.intro (fun _ => (show 0 ≤ (i : Int) ∧ (i : Int) < (L.length : Int) by omega)) ?_
    repeat first | refine sk ?_ | refine st ?_ | refine sg ?_ | refine sh ?_ | refine su ?_ | refine sn1 ?_ | refine sn0 ?_ | refine And.intro (show imp none (gimp _ none) from trivial) ?_
    have hbr : ∀ b, ((((i : Int) == w64 ((L.length : Int) - 1)) && decide ((i : Int) > 0)) && ((bs (L.getD i [])).toList == (bs []).toList)) = b → (decide (i + 1 = L.length) && ((L.getD i []).isEmpty && decide (0 < i))) = b := by
      intro b h
      rw [bs_beq, hwl] at h
      rw [← h]
      have e1 : ((i : Int) == (L.length : Int) - 1) = decide (i + 1 = L.length) := by
        rw [Bool.eq_iff_iff, beq_iff_eq, decide_eq_true_eq]; omega
      have e2 : decide ((i : Int) > 0) = decide (0 < i) := decide_eq_decide.2 (by omega)
      rw [e1, e2]
      cases decide (i + 1 = L.length) <;> cases decide (0 < i) <;> cases (L.getD i []).isEmpty <;> rfl
    refine And.intro (fun h2 => ?_) (fun h2 => ?_)
    · have h2 := hbr _ h2
      simp only [Bool.and_eq_true, decide_eq_true_eq] at h2
      have e := parL_last (d := d) h2.1
      rw [h2.2.1, show decide (0 < i) = true by simpa using h2.2.2] at e
      have er : rP s = (some d, 0) := by show parL 0 zeroC (cutL 10 s) = _; rw [hL, hp, e]; rfl
      rw [er]
      refine ex.sound (rc := []) tab_ok mix href _ ?_
      exact SubR.t ⟨⟨LeD.refl _, LeD.slc' (bif_len _) fun _ _ _ _ => LeD.refl _, LeD.refl _, LeD.refl _, LeD.slc' (bif_len _) fun _ _ _ _ => LeD.refl _, trivial⟩, LeD.refl _, LeD.refl _, trivial⟩
    have h2 := hbr _ h2
    have hkey : parL i d (L.drop i) = match stepS (decide (i + 1 < L.length)) i d (cutL 32 (L.getD i [])) with
        | some e => parL (i + 1) e (L.drop (i + 1))
        | none => (none, i + 1) := by
      by_cases hl : i + 1 < L.length
      · rw [show decide (i + 1 < L.length) = true by simpa using hl]
        exact parL_drop hl
      · rw [show decide (i + 1 < L.length) = false by simpa using hl]
        rw [show decide (i + 1 = L.length) = true by simp; omega] at h2
        rw [Bool.true_and] at h2
        rw [parL_last (by omega), h2]
        rfl
    have hlt : ∀ e, stepS (decide (i + 1 < L.length)) i d (cutL 32 (L.getD i [])) = some e → i + 1 < L.length := by
      intro e he
      by_cases hl : i + 1 < L.length
      · exact hl
      · rw [show decide (i + 1 < L.length) = false by simpa using hl] at he; cases he
    have hps : ∀ e, stepS (decide (i + 1 < L.length)) i d (cutL 32 (L.getD i [])) = some e → PS 20001 (i + 1) e := by
      intro e he
      have hl := hlt e he
      rw [show decide (i + 1 < L.length) = true by simpa using hl] at he
      obtain ⟨c1, c2⟩ := cutL_len 32 (L.getD i [])
      have hb : ((cutL 32 (L.getD i [])).getD 1 []).length ≤ 20000 := by
        rw [List.getD_eq_getElem?_getD]
        cases hq : (cutL 32 (L.getD i []))[1]? with
        | none => simp
        | some x => have := cutL_elem (List.mem_of_getElem? hq); simp only [Option.getD_some]; omega
      exact ps.step he (by omega) (by omega)
    refine AW.seq (ex.sound (rc := []) tab_ok mix href _ ?_)
    refine oi (show 0 ≤ (i : Int) ∧ (i : Int) < (L.length : Int) by omega) ?_
    refine callN (Cut (L.getD i []) 32 (by omega)) ?_
    obtain ⟨w1, w2⟩ := cutL_len 32 (L.getD i [])
    have wel : ∀ w ∈ cutL 32 (L.getD i []), w.length ≤ 20000 := fun w h => by have := cutL_elem h; omega
    generalize hW : cutL 32 (L.getD i []) = W at *
    have w3 := List.length_pos_iff.2 w1
    refine AW.seq (ex.sound (rc := []) tab_ok mix href _ ?_)
    have hok : decide ((i : Int) < w64 ((L.length : Int) - 1)) = decide (i + 1 < L.length) := decide_eq_decide.2 (by rw [hwl]; omega)
    refine AW.cutE (fun q : Option Chan => ⟨[(2, .s (.ptr 2 0)), (5, .s (.d (dTs L))), (6, .s (.ptr 6 0)), (7, vI i), (9, vB q.isSome)], [(2, some (.cells (zvs ty41.zero))), (6, some (cBox (q.getD d))), (100, some (axR (q.getD d))), (101, some (rgR (q.getD d)))]⟩)
      (fun q => q = stepS (decide (i + 1 < L.length)) i d W) (ex.sound (rc := []) tab_ok mix href _ ?_) ?_
    · refine And.intro (fun h0 => ?_) (fun h0 => ?_)
      · have h0 : ((i : Int) == 0) = true := h0
        have hi0 : i = 0 := by rw [beq_iff_eq] at h0; omega
        repeat first | refine sk ?_ | refine st ?_ | refine sg ?_ | refine sh ?_ | refine su ?_ | refine sn1 ?_ | refine sn0 ?_ | refine And.intro (show imp none (gimp _ none) from trivial) ?_
        refine And.intro (fun _ => (show 0 ≤ (0 : Int) ∧ (0 : Int) < (W.length : Int) by omega)) ?_
        repeat first | refine sk ?_ | refine st ?_ | refine sg ?_ | refine sh ?_ | refine su ?_ | refine sn1 ?_ | refine sn0 ?_ | refine And.intro (show imp none (gimp _ none) from trivial) ?_
        refine And.intro (fun hg => ?_) ?_
        · have hg : ((decide ((i : Int) < w64 ((L.length : Int) - 1)) && ((bs (W.getD 0 [])).toList == (bs chanW).toList)) && ((W.length : Int) == 4)) = true := hg
          simp only [Bool.and_eq_true, beq_iff_eq] at hg
          exact ⟨by decide, show (1 : Int) < (W.length : Int) by omega⟩
        repeat first | refine sk ?_ | refine st ?_ | refine sg ?_ | refine sh ?_ | refine su ?_ | refine sn1 ?_ | refine sn0 ?_ | refine And.intro (show imp none (gimp _ none) from trivial) ?_
        have hA : ∀ b, (((decide ((i : Int) < w64 ((L.length : Int) - 1)) && ((bs (W.getD 0 [])).toList == (bs chanW).toList)) && ((W.length : Int) == 4)) && !((bs (W.getD 1 [])).toList == (bs []).toList)) = b →
            (((decide (i + 1 < L.length) && W.getD 0 [] == chanW) && W.length == 4) && !(W.getD 1 []).isEmpty) = b := by
          intro b h
          rw [bs_beq, bs_toList, bs_toList, hok] at h
          rw [← h]
          have : ((W.length : Int) == 4) = (W.length == 4) := by rw [Bool.eq_iff_iff, beq_iff_eq, beq_iff_eq]; omega
          rw [this]
        refine And.intro (fun h3 => ?_) (fun h3 => ?_)
        · have h3 := hA _ h3
          have hS := stepS_A (ok := decide (i + 1 < L.length)) (d := d) hi0 h3
          have h4 : W.length = 4 := by simp at h3; omega
          refine oi (show 0 ≤ (2 : Int) ∧ (2 : Int) ≤ (W.length : Int) ∧ (W.length : Int) ≤ (W.length : Int) by omega) ?_
          refine callN ((rNumbers (W.drop 2) (by rw [List.length_drop]; omega) (fun w hw => by have := wel w (List.mem_of_mem_drop hw); omega)).conv (args' := _) ⟨drop_conv (k := 2) (by omega), trivial⟩) ?_
          refine And.intro (fun h5 => ?_) (fun h5 => ?_)
          · have h5 : (numsP (W.drop 2)).isSome = true := h5
            obtain ⟨n, hn⟩ := Option.isSome_iff_exists.1 h5
            have hnl := numsP_len hn
            rw [List.length_drop] at hnl
            have e5 : numsL (W.drop 2) = n := by unfold numsL; rw [hn]; rfl
            rw [hn] at hS
            rw [e5]
            refine oi (show 0 ≤ (1 : Int) ∧ (1 : Int) < (W.length : Int) by omega) ?_
            refine oi (show 0 ≤ (0 : Int) ∧ (0 : Int) < (n.length : Int) by omega) ?_
            refine oi (show 0 ≤ (1 : Int) ∧ (1 : Int) < (n.length : Int) by omega) ?_
            refine And.intro (by kernel_rfl) ?_
            refine ⟨rfl, some _, hS.symm, ?_⟩
            exact SubI.of0 href [] rfl ⟨⟨rfl, LeBx.rfl⟩, ⟨rfl, LeBx.rfl⟩, ⟨rfl, LeBx.rfl⟩, ⟨rfl, LeBx.rfl⟩, trivial⟩ ⟨⟨rfl, LeQ.rfl⟩, ⟨rfl, LeQ.rfl⟩, ⟨rfl, LeQ.rfl⟩, ⟨rfl, LeQ.rfl⟩, ⟨rfl, LeQ.bool h5⟩, trivial⟩
          · have h5 : (numsP (W.drop 2)).isSome = false := h5
            have hn : numsP (W.drop 2) = none := by simpa using h5
            rw [hn] at hS
            refine ⟨rfl, none, hS.symm, ?_⟩
            exact SubI.of0 href [] rfl ⟨⟨rfl, LeBx.rfl⟩, ⟨rfl, LeBx.rfl⟩, ⟨rfl, LeBx.rfl⟩, ⟨rfl, LeBx.rfl⟩, trivial⟩ ⟨⟨rfl, LeQ.rfl⟩, ⟨rfl, LeQ.rfl⟩, ⟨rfl, LeQ.rfl⟩, ⟨rfl, LeQ.rfl⟩, ⟨rfl, LeQ.bool h5⟩, trivial⟩
        · have h3' := h3
          have h3 := hA _ h3
          have hS := stepS_A (ok := decide (i + 1 < L.length)) (d := d) hi0 h3
          refine ⟨rfl, none, hS.symm, ?_⟩
          exact SubI.of0 href [] rfl ⟨⟨rfl, LeBx.rfl⟩, ⟨rfl, LeBx.rfl⟩, ⟨rfl, LeBx.rfl⟩, ⟨rfl, LeBx.rfl⟩, trivial⟩ ⟨⟨rfl, LeQ.rfl⟩, ⟨rfl, LeQ.rfl⟩, ⟨rfl, LeQ.rfl⟩, ⟨rfl, LeQ.rfl⟩, ⟨rfl, LeQ.bool h3'⟩, trivial⟩
      · have h0 : ((i : Int) == 0) = false := h0
        have hi0 : i ≠ 0 := by rw [beq_eq_false_iff_ne] at h0; omega
        refine oi (show 0 ≤ (0 : Int) ∧ (0 : Int) < (W.length : Int) by omega) ?_
        repeat first | refine sk ?_ | refine st ?_ | refine sg ?_ | refine sh ?_ | refine su ?_ | refine sn1 ?_ | refine sn0 ?_ | refine And.intro (show imp none (gimp _ none) from trivial) ?_
        have hB : ∀ b, (((bs (W.getD 0 [])).toList == (bs axW).toList) && (((bif d.regions.isEmpty then 0 else d.regions.length : Nat) : Int) == 0)) = b → (W.getD 0 [] == axW && d.regions.isEmpty) = b := by
          intro b h
          rw [bs_toList, bs_toList] at h
          rw [← h]
          congr 1
          cases d.regions with
          | nil => rfl
          | cons a t => rw [bif_len, List.isEmpty_cons]; symm; rw [beq_eq_false_iff_ne]; simp only [List.length_cons]; omega
        refine And.intro (fun h3 => ?_) (fun h3 => ?_)
        · have h3 := hB _ h3
          refine oi (show 0 ≤ (1 : Int) ∧ (1 : Int) ≤ (W.length : Int) ∧ (W.length : Int) ≤ (W.length : Int) by omega) ?_
          refine callN ((rNumbers (W.drop 1) (by rw [List.length_drop]; omega) (fun w hw => by have := wel w (List.mem_of_mem_drop hw); omega)).conv (args' := _) ⟨drop_conv (k := 1) (by omega), trivial⟩) ?_
          repeat first | refine sk ?_ | refine st ?_ | refine sg ?_ | refine sh ?_ | refine su ?_ | refine sn1 ?_ | refine sn0 ?_ | refine And.intro (show imp none (gimp _ none) from trivial) ?_
          have hC : ∀ b, ((decide ((i : Int) < w64 ((L.length : Int) - 1)) && (numsP (W.drop 1)).isSome) && (((numsL (W.drop 1)).length : Int) == 5)) = b → ((decide (i + 1 < L.length) && (numsP (W.drop 1)).isSome) && (numsL (W.drop 1)).length == 5) = b := by
            intro b h
            rw [hok] at h
            rw [← h]
            congr 1
            rw [Bool.eq_iff_iff, beq_iff_eq, beq_iff_eq]; omega
          refine And.intro (fun h5 => ?_) (fun h5 => ?_)
          · have h5' := hC _ h5
            have hS := stepS_B hi0 h3 h5'
            have hl5 : (numsL (W.drop 1)).length = 5 := by simp only [Bool.and_eq_true, beq_iff_eq] at h5'; exact h5'.2
            refine oi (show 0 ≤ (0 : Int) ∧ (0 : Int) < ((numsL (W.drop 1)).length : Int) by omega) ?_
            refine oi (show 0 ≤ (1 : Int) ∧ (1 : Int) < ((numsL (W.drop 1)).length : Int) by omega) ?_
            refine oi (show 0 ≤ (2 : Int) ∧ (2 : Int) < ((numsL (W.drop 1)).length : Int) by omega) ?_
            refine oi (show 0 ≤ (3 : Int) ∧ (3 : Int) < ((numsL (W.drop 1)).length : Int) by omega) ?_
            refine oi (show 0 ≤ (4 : Int) ∧ (4 : Int) < ((numsL (W.drop 1)).length : Int) by omega) ?_
            refine ob (by decide) ?_
            refine ob (by rw [bif_len]; show (d.axis.length + 1) * 40 ≤ 140737488355328; have := ps.axis; omega) ?_
            refine ob (fit1 (lt5 rfl rfl rfl rfl rfl)) ?_
            refine And.intro (by kernel_rfl) ?_
            refine ⟨rfl, some _, hS.symm, ?_⟩
            refine SubI.of0 href [(100, 138)] rfl ⟨⟨rfl, LeBx.rfl⟩, ⟨rfl, LeBx.cells ⟨LeQ.rfl, LeQ.mo (isEmpty_snoc _ _), LeQ.rfl, LeQ.rfl, LeQ.rfl, trivial⟩⟩, ⟨rfl, ?_⟩, ⟨rfl, LeBx.rfl⟩, trivial⟩ ⟨⟨rfl, LeQ.rfl⟩, ⟨rfl, LeQ.rfl⟩, ⟨rfl, LeQ.rfl⟩, ⟨rfl, LeQ.rfl⟩, ⟨rfl, LeQ.bool h5⟩, trivial⟩
            exact LeBx.snocR (el := apD) (lt5 rfl rfl rfl rfl rfl)
          · have h5' := hC _ h5
            have hS := stepS_B hi0 h3 h5'
            refine ⟨rfl, none, hS.symm, ?_⟩
            exact SubI.of0 href [] rfl ⟨⟨rfl, LeBx.rfl⟩, ⟨rfl, LeBx.rfl⟩, ⟨rfl, LeBx.rfl⟩, ⟨rfl, LeBx.rfl⟩, trivial⟩ ⟨⟨rfl, LeQ.rfl⟩, ⟨rfl, LeQ.rfl⟩, ⟨rfl, LeQ.rfl⟩, ⟨rfl, LeQ.rfl⟩, ⟨rfl, LeQ.bool h5⟩, trivial⟩
        · have h3 := hB _ h3
          refine oi (show 0 ≤ (0 : Int) ∧ (0 : Int) < (W.length : Int) by omega) ?_
          refine And.intro (fun h6 => ?_) (fun h6 => ?_)
          · have h6 : ((bs (W.getD 0 [])).toList == (bs regW).toList) = true := h6
            rw [bs_toList, bs_toList] at h6
            repeat first | refine sk ?_ | refine st ?_ | refine sg ?_ | refine sh ?_ | refine su ?_ | refine sn1 ?_ | refine sn0 ?_ | refine And.intro (show imp none (gimp _ none) from trivial) ?_
            refine And.intro (fun _ => (show (2 : Int) ≠ 0 by decide)) ?_
            repeat first | refine sk ?_ | refine st ?_ | refine sg ?_ | refine sh ?_ | refine su ?_ | refine sn1 ?_ | refine sn0 ?_ | refine And.intro (show imp none (gimp _ none) from trivial) ?_
            refine And.intro (fun hg => ?_) ?_
            · have hg : ((decide ((i : Int) < w64 ((L.length : Int) - 1)) && decide ((W.length : Int) ≥ 3)) && ((W.length : Int).tmod 2 == 1)) = true := hg
              simp only [Bool.and_eq_true, decide_eq_true_eq] at hg
              exact ⟨by decide, show (1 : Int) < (W.length : Int) by omega⟩
            repeat first | refine sk ?_ | refine st ?_ | refine sg ?_ | refine sh ?_ | refine su ?_ | refine sn1 ?_ | refine sn0 ?_ | refine And.intro (show imp none (gimp _ none) from trivial) ?_
            have hD : ∀ b, (((decide ((i : Int) < w64 ((L.length : Int) - 1)) && decide ((W.length : Int) ≥ 3)) && ((W.length : Int).tmod 2 == 1)) && !((bs (W.getD 1 [])).toList == (bs []).toList)) = b → (((decide (i + 1 < L.length) && decide (3 ≤ W.length)) && W.length % 2 == 1) && !(W.getD 1 []).isEmpty) = b := by
              intro b h
              rw [bs_beq, hok] at h
              rw [← h]
              have e1 : decide ((W.length : Int) ≥ 3) = decide (3 ≤ W.length) := decide_eq_decide.2 (by omega)
              have e2 : ((W.length : Int).tmod 2 == 1) = (W.length % 2 == 1) := by
                rw [Int.tmod_eq_emod_of_nonneg (by omega), Bool.eq_iff_iff, beq_iff_eq, beq_iff_eq]; omega
              rw [e1, e2]
            refine And.intro (fun h7 => ?_) (fun h7 => ?_)
            · have h7' := hD _ h7
              have hS := stepS_C (d := d) hi0 h3 h6 h7'
              have h4 : 3 ≤ W.length := by simp at h7'; omega
              refine oi (show 0 ≤ (2 : Int) ∧ (2 : Int) ≤ (W.length : Int) ∧ (W.length : Int) ≤ (W.length : Int) by omega) ?_
              refine callN ((rNumbers (W.drop 2) (by rw [List.length_drop]; omega) (fun w hw => by have := wel w (List.mem_of_mem_drop hw); omega)).conv (args' := _) ⟨drop_conv (k := 2) (by omega), trivial⟩) ?_
              refine And.intro (fun h8 => ?_) (fun h8 => ?_)
              · have h8 : (numsP (W.drop 2)).isSome = true := h8
                obtain ⟨n, hn⟩ := Option.isSome_iff_exists.1 h8
                have hnl := numsP_len hn
                rw [List.length_drop] at hnl
                have e5 : numsL (W.drop 2) = n := by unfold numsL; rw [hn]; rfl
                rw [hn] at hS
                rw [e5]
                refine oi (show 0 ≤ (1 : Int) ∧ (1 : Int) < (W.length : Int) by omega) ?_
                refine callN (rRegion (W.getD 1 []) n (by omega) (by omega)) ?_
                refine ob (by decide) ?_
                refine ob (by rw [bif_len]; show (d.regions.length + 1) * 48 ≤ 140737488355328; have := ps.regions; omega) ?_
                refine ob (fit1 (lt3 rfl rfl rfl)) ?_
                refine And.intro (by kernel_rfl) ?_
                refine ⟨rfl, some _, hS.symm, ?_⟩
                refine SubI.of0 href [(101, 180)] rfl ⟨⟨rfl, LeBx.rfl⟩, ⟨rfl, LeBx.cells ⟨LeQ.rfl, LeQ.rfl, LeQ.rfl, LeQ.rfl, LeQ.mo (isEmpty_snoc _ _), trivial⟩⟩, ⟨rfl, LeBx.rfl⟩, ⟨rfl, ?_⟩, trivial⟩ ⟨⟨rfl, LeQ.rfl⟩, ⟨rfl, LeQ.rfl⟩, ⟨rfl, LeQ.rfl⟩, ⟨rfl, LeQ.rfl⟩, ⟨rfl, LeQ.bool h8⟩, trivial⟩
                exact LeBx.snocR (el := regD) (lt3 rfl rfl rfl)
              · have h8 : (numsP (W.drop 2)).isSome = false := h8
                have hn : numsP (W.drop 2) = none := by simpa using h8
                rw [hn] at hS
                refine ⟨rfl, none, hS.symm, ?_⟩
                exact SubI.of0 href [] rfl ⟨⟨rfl, LeBx.rfl⟩, ⟨rfl, LeBx.rfl⟩, ⟨rfl, LeBx.rfl⟩, ⟨rfl, LeBx.rfl⟩, trivial⟩ ⟨⟨rfl, LeQ.rfl⟩, ⟨rfl, LeQ.rfl⟩, ⟨rfl, LeQ.rfl⟩, ⟨rfl, LeQ.rfl⟩, ⟨rfl, LeQ.bool h8⟩, trivial⟩
            · have h7' := hD _ h7
              have hS := stepS_C (d := d) hi0 h3 h6 h7'
              refine ⟨rfl, none, hS.symm, ?_⟩
              exact SubI.of0 href [] rfl ⟨⟨rfl, LeBx.rfl⟩, ⟨rfl, LeBx.rfl⟩, ⟨rfl, LeBx.rfl⟩, ⟨rfl, LeBx.rfl⟩, trivial⟩ ⟨⟨rfl, LeQ.rfl⟩, ⟨rfl, LeQ.rfl⟩, ⟨rfl, LeQ.rfl⟩, ⟨rfl, LeQ.rfl⟩, ⟨rfl, LeQ.bool h7⟩, trivial⟩
          · have h6 : ((bs (W.getD 0 [])).toList == (bs regW).toList) = false := h6
            rw [bs_toList, bs_toList] at h6
            have hS := stepS_D (ok := decide (i + 1 < L.length)) (d := d) hi0 h3 h6
            refine ⟨rfl, none, hS.symm, ?_⟩
            exact SubI.of0 href [] rfl ⟨⟨rfl, LeBx.rfl⟩, ⟨rfl, LeBx.rfl⟩, ⟨rfl, LeBx.rfl⟩, ⟨rfl, LeBx.rfl⟩, trivial⟩ ⟨⟨rfl, LeQ.rfl⟩, ⟨rfl, LeQ.rfl⟩, ⟨rfl, LeQ.rfl⟩, ⟨rfl, LeQ.rfl⟩, ⟨rfl, LeQ.rfl⟩, trivial⟩
    · intro q hq
      subst hq
      cases hq : stepS (decide (i + 1 < L.length)) i d W with
      | none =>
        rw [hq] at hkey
        have er : rP s = (none, i + 1) := by show parL 0 zeroC (cutL 10 s) = _; rw [hL, hp, hkey]
        rw [er]
        refine ex.sound (rc := []) tab_ok mix href _ ?_
        refine And.intro (fun _ => ?_) (fun h => by cases h)
        refine SubR.t ⟨⟨LeD.refl _, LeD.nil, LeD.refl _, LeD.refl _, LeD.nil, trivial⟩, LeD.of_eq ?_, LeD.refl _, trivial⟩
        show dI (w64 (i + 1)) = dI ((i + 1 : Nat) : Int)
        rw [w64_of (by omega) (by omega)]
        rfl
      | some e =>
        rw [hq] at hkey
        have h3 := hlt e hq
        have h4 := hps e hq
        refine ex.sound (rc := []) tab_ok mix href _ ?_
        refine And.intro (fun h => by cases h) (fun _ => ?_)
        refine ex.sound (rc := []) tab_ok mix href _ ?_
        refine ⟨(i + 1, e), ⟨h3, by simp only; rw [hp, hkey], h4⟩, by simp only; omega, ?_⟩
        exact SubI.of0 href [] rfl ⟨⟨rfl, LeBx.rfl⟩, ⟨rfl, LeBx.rfl⟩, ⟨rfl, LeBx.rfl⟩, ⟨rfl, LeBx.rfl⟩, trivial⟩ ⟨⟨rfl, LeQ.rfl⟩, ⟨rfl, LeQ.rfl⟩, ⟨rfl, LeQ.rfl⟩, ⟨rfl, LeQ.int (w64_of (by omega) (by omega))⟩, trivial⟩
end Go.Ch
