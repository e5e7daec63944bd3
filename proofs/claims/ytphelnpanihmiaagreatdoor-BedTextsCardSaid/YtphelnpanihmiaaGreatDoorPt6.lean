/- Part 6: lemmas that the proofs of this seat share; by itself it claims nothing. -/
import Derived.Shelf.Strconv.Itoa3
import Derived.Shelf.Strconv.AtoiAll
import Derived.Shelf.Strings.FieldsAny
import Derived.Test.YtphelnpanihmiaaGreatDoorChecked
import Derived.Shelf.RegionOpenPlain
import Derived.Lib.Strings
import Derived.Lib.Slices
import Derived.Lib.Walk
import Derived.Lib.Builder
import Derived.Lib.AppendStr
import Derived.Lib.UnsafeStr
import Derived.WalkKit
import Derived.Laws.Externs
import Derived.Lib.AtoiTie
import Derived.Test.YtphelnpanihmiaaGreatDoorPt5
namespace Go.Proofs
open Go.Shelf
def Tryz.laysM171_ren : Go.Shelf.Ren := ⟨fun | 171 => 74 | 243 => 107 | 246 => 134 | 283 => 164 | 284 => 165 | 285 => 166 | 286 => 167 | 129 => 163 | 317 => 193 | 318 => 194 | 319 => 195 | 320 => 196 | 337 => 211 | 338 => 212 | n => n, fun | 3 => 3 | 9 => 9 | 2 => 2 | 4 => 4 | 171 => 233 | 0 => 0 | 53 => 203 | 37 => 93 | 5 => 5 | 173 => 235 | 212 => 261 | 51 => 158 | 20 => 20 | 213 => 262 | 46 => 188 | 232 => 275 | 233 => 276 | n => n, fun | 17 => 5 | 18 => 8 | 19 => 9 | n => n⟩
theorem Tryz.laysM171 : Go.Proofs.LaysM.n171 Tryz.prog Tryz.laysM171_ren := {
  mixed := by kernel_rfl
  f129 := Tryz.func163.trans (congrArg some (by kernel_rfl))
  f171 := Tryz.func74.trans (congrArg some (by kernel_rfl))
  f243 := Tryz.func107.trans (congrArg some (by kernel_rfl))
  f246 := Tryz.func134.trans (congrArg some (by kernel_rfl))
  f283 := Tryz.func164.trans (congrArg some (by kernel_rfl))
  f284 := Tryz.func165.trans (congrArg some (by kernel_rfl))
  f285 := Tryz.func166.trans (congrArg some (by kernel_rfl))
  f286 := Tryz.func167.trans (congrArg some (by kernel_rfl))
  f317 := Tryz.func193.trans (congrArg some (by kernel_rfl))
  f318 := Tryz.func194.trans (congrArg some (by kernel_rfl))
  f319 := Tryz.func195.trans (congrArg some (by kernel_rfl))
  f320 := Tryz.func196.trans (congrArg some (by kernel_rfl))
  f337 := Tryz.func211.trans (congrArg some (by kernel_rfl))
  f338 := Tryz.func212.trans (congrArg some (by kernel_rfl))
  t0 := Tryz.underlying0
  a0 := Tryz.isAgg0
  z0 := Tryz.sizeOf0
  v0 := Tryz.zeroValue0
  t2 := Tryz.underlying2
  a2 := Tryz.isAgg2
  z2 := Tryz.sizeOf2
  v2 := Tryz.zeroValue2
  t3 := Tryz.underlying3
  a3 := Tryz.isAgg3
  z3 := Tryz.sizeOf3
  v3 := Tryz.zeroValue3
  t4 := Tryz.underlying4
  a4 := Tryz.isAgg4
  z4 := Tryz.sizeOf4
  v4 := Tryz.zeroValue4
  t5 := Tryz.underlying5
  a5 := Tryz.isAgg5
  z5 := Tryz.sizeOf5
  v5 := Tryz.zeroValue5
  t9 := Tryz.underlying9
  a9 := Tryz.isAgg9
  z9 := Tryz.sizeOf9
  v9 := Tryz.zeroValue9
  t20 := Tryz.underlying20
  a20 := Tryz.isAgg20
  z20 := Tryz.sizeOf20
  v20 := Tryz.zeroValue20
  t37 := Tryz.underlying93
  a37 := Tryz.isAgg93
  z37 := Tryz.sizeOf93
  v37 := Tryz.zeroValue93
  t46 := Tryz.underlying188
  a46 := Tryz.isAgg188
  z46 := Tryz.sizeOf188
  v46 := Tryz.zeroValue188
  t51 := Tryz.underlying158
  a51 := Tryz.isAgg158
  z51 := Tryz.sizeOf158
  v51 := Tryz.zeroValue158
  t53 := Tryz.underlying203
  a53 := Tryz.isAgg203
  z53 := Tryz.sizeOf203
  v53 := Tryz.zeroValue203
  t171 := Tryz.underlying233
  a171 := Tryz.isAgg233
  z171 := Tryz.sizeOf233
  v171 := Tryz.zeroValue233
  t173 := Tryz.underlying235
  a173 := Tryz.isAgg235
  z173 := Tryz.sizeOf235
  v173 := Tryz.zeroValue235
  t212 := Tryz.underlying261
  a212 := Tryz.isAgg261
  z212 := Tryz.sizeOf261
  v212 := Tryz.zeroValue261
  t213 := Tryz.underlying262
  a213 := Tryz.isAgg262
  z213 := Tryz.sizeOf262
  t232 := Tryz.underlying275
  a232 := Tryz.isAgg275
  z232 := Tryz.sizeOf275
  v232 := Tryz.zeroValue275
  t233 := Tryz.underlying276
  a233 := Tryz.isAgg276
  z233 := Tryz.sizeOf276
  v233 := Tryz.zeroValue276
  g17 := by kernel_rfl
  g18 := by kernel_rfl
  g19 := by kernel_rfl
  i0 := by kernel_rfl
  i2 := by kernel_rfl
  i3 := by kernel_rfl
  i4 := by kernel_rfl
  i5 := by kernel_rfl
  i9 := by kernel_rfl
  i20 := by kernel_rfl
  i37 := by kernel_rfl
  i46 := by kernel_rfl
  i51 := by kernel_rfl
  i53 := by kernel_rfl
  i171 := by kernel_rfl
  i173 := by kernel_rfl
  i212 := by kernel_rfl
  i232 := by kernel_rfl
  i233 := by kernel_rfl
  m17 := by kernel_rfl
  m18 := by kernel_rfl
  m19 := by kernel_rfl }
open Go.RowKit Go.Sort Go.Lib in
/-- strconv.Itoa: "Itoa is equivalent to FormatInt(int64(i), 10).": i's DECIMAL NUMERAL ('Lib.itoa': a '-' where i is negative, then the digits), FOR EVERY int. The world behind the call: the world before it, new blocks behind the heap (the library's 'var a [24]byte'), draws. (LAID: no walk: one application.) -/
theorem Tryz.strconv_Itoa (n : Int) (h0 : -9223372036854775808 ≤ n) (h1 : n ≤ 9223372036854775807) (w : World) (htab : Lib.TabIs Tryz.prog w "internal/strconv.uint64pow10" .u64 Lib.pow10Tab) :
    Calls Tryz.prog 74 #[.int .i64 n] w fun e w' => e = .returned (.string ⟨(Lib.itoa n).toArray⟩) ∧ ∃ k os, w' = grow (w.drewN k) os := Any.strconv_Itoa Tryz.laysM171 n h0 h1 w htab
def Tryz.laysC172_ren : Go.Shelf.Ren := ⟨fun | 172 => 32 | 244 => 77 | 245 => 78 | 247 => 109 | 279 => 110 | 280 => 111 | 281 => 112 | 282 => 113 | 287 => 137 | 316 => 138 | 171 => 74 | 205 => 139 | 321 => 168 | 322 => 169 | 243 => 107 | 246 => 134 | 283 => 164 | 284 => 165 | 285 => 166 | 286 => 167 | 129 => 163 | 317 => 193 | 318 => 194 | 319 => 195 | 320 => 196 | 337 => 211 | 338 => 212 | n => n, fun | 9 => 9 | 3 => 3 | 75 => 71 | 76 => 72 | 4 => 4 | 5 => 5 | 167 => 161 | 37 => 93 | 0 => 0 | 85 => 162 | 2 => 2 | 168 => 164 | 53 => 203 | 175 => 204 | 46 => 188 | 210 => 208 | 127 => 138 | 145 => 242 | 143 => 240 | 21 => 21 | 171 => 233 | 173 => 235 | 212 => 261 | 51 => 158 | 20 => 20 | 213 => 262 | 232 => 275 | 233 => 276 | 80 => 99 | n => n, fun | 15 => 2 | 16 => 3 | 17 => 5 | 18 => 8 | 19 => 9 | n => n⟩
theorem Tryz.laysC172 : Go.Proofs.LaysC.n172 Tryz.prog Tryz.laysC172_ren := {
  mixed := by kernel_rfl
  f129 := Tryz.func163.trans (congrArg some (by kernel_rfl))
  f171 := Tryz.func74.trans (congrArg some (by kernel_rfl))
  f172 := Tryz.func32.trans (congrArg some (by kernel_rfl))
  f205 := Tryz.func139.trans (congrArg some (by kernel_rfl))
  f243 := Tryz.func107.trans (congrArg some (by kernel_rfl))
  f244 := Tryz.func77.trans (congrArg some (by kernel_rfl))
  f245 := Tryz.func78.trans (congrArg some (by kernel_rfl))
  f246 := Tryz.func134.trans (congrArg some (by kernel_rfl))
  f247 := Tryz.func109.trans (congrArg some (by kernel_rfl))
  f279 := Tryz.func110.trans (congrArg some (by kernel_rfl))
  f280 := Tryz.func111.trans (congrArg some (by kernel_rfl))
  f281 := Tryz.func112.trans (congrArg some (by kernel_rfl))
  f282 := Tryz.func113.trans (congrArg some (by kernel_rfl))
  f283 := Tryz.func164.trans (congrArg some (by kernel_rfl))
  f284 := Tryz.func165.trans (congrArg some (by kernel_rfl))
  f285 := Tryz.func166.trans (congrArg some (by kernel_rfl))
  f286 := Tryz.func167.trans (congrArg some (by kernel_rfl))
  f287 := Tryz.func137.trans (congrArg some (by kernel_rfl))
  f316 := Tryz.func138.trans (congrArg some (by kernel_rfl))
  f317 := Tryz.func193.trans (congrArg some (by kernel_rfl))
  f318 := Tryz.func194.trans (congrArg some (by kernel_rfl))
  f319 := Tryz.func195.trans (congrArg some (by kernel_rfl))
  f320 := Tryz.func196.trans (congrArg some (by kernel_rfl))
  f321 := Tryz.func168.trans (congrArg some (by kernel_rfl))
  f322 := Tryz.func169.trans (congrArg some (by kernel_rfl))
  f337 := Tryz.func211.trans (congrArg some (by kernel_rfl))
  f338 := Tryz.func212.trans (congrArg some (by kernel_rfl))
  t0 := Tryz.underlying0
  a0 := Tryz.isAgg0
  z0 := Tryz.sizeOf0
  v0 := Tryz.zeroValue0
  t2 := Tryz.underlying2
  a2 := Tryz.isAgg2
  z2 := Tryz.sizeOf2
  v2 := Tryz.zeroValue2
  t3 := Tryz.underlying3
  a3 := Tryz.isAgg3
  z3 := Tryz.sizeOf3
  v3 := Tryz.zeroValue3
  t4 := Tryz.underlying4
  a4 := Tryz.isAgg4
  z4 := Tryz.sizeOf4
  v4 := Tryz.zeroValue4
  t5 := Tryz.underlying5
  a5 := Tryz.isAgg5
  z5 := Tryz.sizeOf5
  v5 := Tryz.zeroValue5
  t9 := Tryz.underlying9
  a9 := Tryz.isAgg9
  z9 := Tryz.sizeOf9
  v9 := Tryz.zeroValue9
  t20 := Tryz.underlying20
  a20 := Tryz.isAgg20
  z20 := Tryz.sizeOf20
  v20 := Tryz.zeroValue20
  t21 := Tryz.underlying21
  a21 := Tryz.isAgg21
  z21 := Tryz.sizeOf21
  v21 := Tryz.zeroValue21
  t37 := Tryz.underlying93
  a37 := Tryz.isAgg93
  z37 := Tryz.sizeOf93
  v37 := Tryz.zeroValue93
  t46 := Tryz.underlying188
  a46 := Tryz.isAgg188
  z46 := Tryz.sizeOf188
  v46 := Tryz.zeroValue188
  t51 := Tryz.underlying158
  a51 := Tryz.isAgg158
  z51 := Tryz.sizeOf158
  v51 := Tryz.zeroValue158
  t53 := Tryz.underlying203
  a53 := Tryz.isAgg203
  z53 := Tryz.sizeOf203
  v53 := Tryz.zeroValue203
  t75 := Tryz.underlying71
  a75 := Tryz.isAgg71
  z75 := Tryz.sizeOf71
  v75 := Tryz.zeroValue71
  t76 := Tryz.underlying72
  a76 := Tryz.isAgg72
  z76 := Tryz.sizeOf72
  v76 := Tryz.zeroValue72
  t85 := Tryz.underlying162
  a85 := Tryz.isAgg162
  z85 := Tryz.sizeOf162
  v85 := Tryz.zeroValue162
  t127 := Tryz.underlying138
  a127 := Tryz.isAgg138
  z127 := Tryz.sizeOf138
  v127 := Tryz.zeroValue138
  t143 := Tryz.underlying240
  a143 := Tryz.isAgg240
  z143 := Tryz.sizeOf240
  v143 := Tryz.zeroValue240
  t145 := Tryz.underlying242
  a145 := Tryz.isAgg242
  z145 := Tryz.sizeOf242
  v145 := Tryz.zeroValue242
  t167 := Tryz.underlying161
  a167 := Tryz.isAgg161
  z167 := Tryz.sizeOf161
  v167 := Tryz.zeroValue161
  t168 := Tryz.underlying164
  a168 := Tryz.isAgg164
  z168 := Tryz.sizeOf164
  v168 := Tryz.zeroValue164
  t171 := Tryz.underlying233
  a171 := Tryz.isAgg233
  z171 := Tryz.sizeOf233
  v171 := Tryz.zeroValue233
  t173 := Tryz.underlying235
  a173 := Tryz.isAgg235
  z173 := Tryz.sizeOf235
  v173 := Tryz.zeroValue235
  t175 := Tryz.underlying204
  a175 := Tryz.isAgg204
  z175 := Tryz.sizeOf204
  v175 := Tryz.zeroValue204
  t210 := Tryz.underlying208
  a210 := Tryz.isAgg208
  z210 := Tryz.sizeOf208
  v210 := Tryz.zeroValue208
  t212 := Tryz.underlying261
  a212 := Tryz.isAgg261
  z212 := Tryz.sizeOf261
  v212 := Tryz.zeroValue261
  t213 := Tryz.underlying262
  a213 := Tryz.isAgg262
  z213 := Tryz.sizeOf262
  t232 := Tryz.underlying275
  a232 := Tryz.isAgg275
  z232 := Tryz.sizeOf275
  v232 := Tryz.zeroValue275
  t233 := Tryz.underlying276
  a233 := Tryz.isAgg276
  z233 := Tryz.sizeOf276
  v233 := Tryz.zeroValue276
  g15 := by kernel_rfl
  g16 := by kernel_rfl
  g17 := by kernel_rfl
  g18 := by kernel_rfl
  g19 := by kernel_rfl
  t80 := Tryz.underlying99
  a80 := Tryz.isAgg99
  z80 := Tryz.sizeOf99
  v80 := Tryz.zeroValue99
  i0 := by kernel_rfl
  i2 := by kernel_rfl
  i3 := by kernel_rfl
  i4 := by kernel_rfl
  i5 := by kernel_rfl
  i9 := by kernel_rfl
  i20 := by kernel_rfl
  i21 := by kernel_rfl
  i37 := by kernel_rfl
  i46 := by kernel_rfl
  i51 := by kernel_rfl
  i53 := by kernel_rfl
  i75 := by kernel_rfl
  i76 := by kernel_rfl
  i80 := by kernel_rfl
  i85 := by kernel_rfl
  i127 := by kernel_rfl
  i143 := by kernel_rfl
  i145 := by kernel_rfl
  i167 := by kernel_rfl
  i168 := by kernel_rfl
  i171 := by kernel_rfl
  i173 := by kernel_rfl
  i175 := by kernel_rfl
  i210 := by kernel_rfl
  i212 := by kernel_rfl
  i232 := by kernel_rfl
  i233 := by kernel_rfl
  m15 := by kernel_rfl
  m16 := by kernel_rfl
  m17 := by kernel_rfl
  m18 := by kernel_rfl
  m19 := by kernel_rfl
  c0 := by kernel_rfl
  c2 := by kernel_rfl
  c3 := by kernel_rfl
  c4 := by kernel_rfl
  c5 := by kernel_rfl
  c9 := by kernel_rfl
  c20 := by kernel_rfl
  c21 := by kernel_rfl
  c37 := by kernel_rfl
  c46 := by kernel_rfl
  c51 := by kernel_rfl
  c53 := by kernel_rfl
  c75 := by kernel_rfl
  c76 := by kernel_rfl
  c80 := by kernel_rfl
  c85 := by kernel_rfl
  c127 := by kernel_rfl
  c143 := by kernel_rfl
  c145 := by kernel_rfl
  c167 := by kernel_rfl
  c168 := by kernel_rfl
  c171 := by kernel_rfl
  c173 := by kernel_rfl
  c175 := by kernel_rfl
  c210 := by kernel_rfl
  c212 := by kernel_rfl
  c213 := by kernel_rfl
  c232 := by kernel_rfl
  c233 := by kernel_rfl }
/-- Neither a number nor out of range. -/
def notNum : Lib.NumEnd Int → Bool
  | .ok _ => false
  | .range => false
  | _ => true
open Go.RowKit in
/-- strconv.Atoi, AT EVERY STRING THAT SPELLS AN int ('Lib.atoiAll .. = .ok v'; of whatever length: leading zeros count): v, AND NO ERROR. The world: as it was, or with the one new row that '[]byte(..)' lays. (LAID: no walk: one application.) -/
theorem Tryz.strconv_Atoi_ok (s : ByteArray) (hmax : s.size ≤ 9223372036854775806) (v : Int) (h : Lib.atoiAll s.data.toList = .ok v) (w : World) :
    Calls Tryz.prog 32 #[.string s] w fun e w' => e = .returned (.tuple #[.int .i64 v, .nilIface]) ∧ (w' = w ∨ ∃ t, w' = Lib.bytesWorld w 5 t) := Any.strconv_Atoi_ok Tryz.laysC172 s hmax v h w
open Go.RowKit in
/-- strconv.Atoi, AT EVERY STRING THAT IS NO DECIMAL NUMERAL (no numeral): 0, AND AN ERROR THAT IS NOT nil: a *NumError in a new block N: {Func: "Atoi", Num: s's bytes, Err: what the variable ErrSyntax holds}. Of what was there nothing has turned. (LAID: no walk: one application.) -/
theorem Tryz.strconv_Atoi_bad (s : ByteArray) (hlim : s.size ≤ 281474976710656) (h : notNum (Lib.atoiAll s.data.toList) = true) (ev : Value) (w : World) (hv : w.cell? ⟨2, 0, none⟩ = some ev) (hev : ev = .nilIface ∨ ∃ te pe, ev = .iface te pe) :
    Calls Tryz.prog 32 #[.string s] w fun e w' => ∃ N, e = .returned (.tuple #[.int .i64 (0), .iface 164 (.pointer (some ⟨N, 0, none⟩))]) ∧ w.heap.size ≤ N ∧ w'.heap[N]? = some (.cells #[.string ⟨#[65, 116, 111, 105]⟩, .string s, ev] 208 (0, 0)) ∧ Below w.heap.size w w' := Any.strconv_Atoi_syntax Tryz.laysC172 s hlim (by revert h; cases Lib.atoiAll s.data.toList <;> intro h <;> first | rfl | cases h) ev w hv hev
open Go.RowKit in
/-- strconv.Atoi, AT EVERY NUMERAL THAT NO int HOLDS ('.range'): THE GREATEST OR THE LEAST int, BY THE SIGN ('Lib.atoiSat'), AND AN ERROR THAT IS NOT nil: a *NumError in a new block N: {Func: "Atoi", Num: s's bytes, Err: what the variable ErrRange holds}. Of what was there nothing has turned. (LAID: no walk: one application.) -/
theorem Tryz.strconv_Atoi_range (s : ByteArray) (hlim : s.size ≤ 281474976710656) (h : Lib.atoiAll s.data.toList = .range) (ev : Value) (w : World) (hv : w.cell? ⟨3, 0, none⟩ = some ev) (hev : ev = .nilIface ∨ ∃ te pe, ev = .iface te pe) :
    Calls Tryz.prog 32 #[.string s] w fun e w' => ∃ N, e = .returned (.tuple #[.int .i64 (Lib.atoiSat s.data.toList), .iface 164 (.pointer (some ⟨N, 0, none⟩))]) ∧ w.heap.size ≤ N ∧ w'.heap[N]? = some (.cells #[.string ⟨#[65, 116, 111, 105]⟩, .string s, ev] 208 (0, 0)) ∧ Below w.heap.size w w' := Any.strconv_Atoi_range Tryz.laysC172 s hlim h ev w hv hev
def Tryz.lays157_ren : Go.Shelf.Ren := ⟨fun | 157 => 31 | 229 => 75 | 199 => 76 | 261 => 108 | 311 => 135 | 312 => 136 | n => n, fun | 9 => 9 | 31 => 68 | 3 => 3 | 5 => 5 | 4 => 4 | 119 => 129 | 0 => 0 | 40 => 131 | 152 => 155 | 21 => 21 | 154 => 157 | 51 => 158 | 141 => 160 | 196 => 195 | 193 => 192 | 198 => 198 | 49 => 196 | 194 => 193 | 201 => 201 | 226 => 237 | 46 => 188 | 227 => 238 | n => n, fun | 0 => 0 | 6 => 1 | n => n⟩
theorem Tryz.lays157 : Go.Proofs.Lays.n157 Tryz.prog Tryz.lays157_ren := {
  mixed := by kernel_rfl
  f157 := Tryz.func31.trans (congrArg some (by kernel_rfl))
  f199 := Tryz.func76.trans (congrArg some (by kernel_rfl))
  f229 := Tryz.func75.trans (congrArg some (by kernel_rfl))
  f261 := Tryz.func108.trans (congrArg some (by kernel_rfl))
  f311 := Tryz.func135.trans (congrArg some (by kernel_rfl))
  f312 := Tryz.func136.trans (congrArg some (by kernel_rfl))
  t0 := Tryz.underlying0
  a0 := Tryz.isAgg0
  z0 := Tryz.sizeOf0
  v0 := Tryz.zeroValue0
  t3 := Tryz.underlying3
  a3 := Tryz.isAgg3
  z3 := Tryz.sizeOf3
  v3 := Tryz.zeroValue3
  t4 := Tryz.underlying4
  a4 := Tryz.isAgg4
  z4 := Tryz.sizeOf4
  v4 := Tryz.zeroValue4
  t5 := Tryz.underlying5
  a5 := Tryz.isAgg5
  z5 := Tryz.sizeOf5
  v5 := Tryz.zeroValue5
  t9 := Tryz.underlying9
  a9 := Tryz.isAgg9
  z9 := Tryz.sizeOf9
  v9 := Tryz.zeroValue9
  t21 := Tryz.underlying21
  a21 := Tryz.isAgg21
  z21 := Tryz.sizeOf21
  v21 := Tryz.zeroValue21
  t31 := Tryz.underlying68
  a31 := Tryz.isAgg68
  z31 := Tryz.sizeOf68
  v31 := Tryz.zeroValue68
  t40 := Tryz.underlying131
  a40 := Tryz.isAgg131
  z40 := Tryz.sizeOf131
  v40 := Tryz.zeroValue131
  t46 := Tryz.underlying188
  a46 := Tryz.isAgg188
  z46 := Tryz.sizeOf188
  v46 := Tryz.zeroValue188
  t49 := Tryz.underlying196
  a49 := Tryz.isAgg196
  z49 := Tryz.sizeOf196
  v49 := Tryz.zeroValue196
  t51 := Tryz.underlying158
  a51 := Tryz.isAgg158
  z51 := Tryz.sizeOf158
  v51 := Tryz.zeroValue158
  t119 := Tryz.underlying129
  a119 := Tryz.isAgg129
  z119 := Tryz.sizeOf129
  t141 := Tryz.underlying160
  a141 := Tryz.isAgg160
  z141 := Tryz.sizeOf160
  v141 := Tryz.zeroValue160
  t152 := Tryz.underlying155
  a152 := Tryz.isAgg155
  z152 := Tryz.sizeOf155
  v152 := Tryz.zeroValue155
  t154 := Tryz.underlying157
  a154 := Tryz.isAgg157
  z154 := Tryz.sizeOf157
  v154 := Tryz.zeroValue157
  t193 := Tryz.underlying192
  a193 := Tryz.isAgg192
  z193 := Tryz.sizeOf192
  v193 := Tryz.zeroValue192
  t194 := Tryz.underlying193
  a194 := Tryz.isAgg193
  z194 := Tryz.sizeOf193
  v194 := Tryz.zeroValue193
  t196 := Tryz.underlying195
  a196 := Tryz.isAgg195
  z196 := Tryz.sizeOf195
  v196 := Tryz.zeroValue195
  t198 := Tryz.underlying198
  a198 := Tryz.isAgg198
  z198 := Tryz.sizeOf198
  v198 := Tryz.zeroValue198
  t201 := Tryz.underlying201
  a201 := Tryz.isAgg201
  z201 := Tryz.sizeOf201
  v201 := Tryz.zeroValue201
  t226 := Tryz.underlying237
  a226 := Tryz.isAgg237
  z226 := Tryz.sizeOf237
  v226 := Tryz.zeroValue237
  t227 := Tryz.underlying238
  a227 := Tryz.isAgg238
  z227 := Tryz.sizeOf238
  v227 := Tryz.zeroValue238
  g0 := by kernel_rfl
  g6 := by kernel_rfl }
open Go.RowKit Go.Lib in
/-- **strings.Fields AT EVERY STRING, VALID UTF-8 OR NOT.** (LAID: no walk: one application.) -/
theorem Tryz.strings_Fields_any (s : ByteArray) (w : World) (hs : s.size < 4294967281) (htab : Lib.TabIs Tryz.prog w "strings.asciiSpace" .u8 Lib.asciiSpaceTab) (hW : Lib.WhiteTab 1 w) :
    Calls Tryz.prog 31 #[.string s] w fun e w' => ∃ A, e = .returned (.slice (some ⟨A, 0, none⟩) (Lib.fieldsD s.data.toList).length (Lib.fieldsD s.data.toList).length) ∧ w.heap.size ≤ A ∧
      w'.ownsRow w.heap.size 9 1 (.slice (some ⟨A, 0, none⟩) (Lib.fieldsD s.data.toList).length (Lib.fieldsD s.data.toList).length) (Lib.fieldsD s.data.toList).length ((Lib.fieldsD s.data.toList).map fun x => Value.string ⟨x.toArray⟩) ∧ Below w.heap.size w w' := Any.strings_Fields_any Tryz.lays157 (by kernel_rfl) (by kernel_rfl) (by kernel_rfl) s w hs htab hW
end Go.Proofs

/- strconv.Itoa, strconv.Atoi, strings.Fields as contracts. -/
namespace Go.Ch
open Go Go.Ax Go.Proofs Go.Proofs.Tryz Go.RowKit
set_option maxRecDepth 100000

theorem memOK_below {M : Mem} {w w' : World} (h : MemOK M w) (hb : Below w.heap.size w w') : MemOK M w' := by
  intro b o u e
  have hc := h b o u e
  have hlt : b < w.heap.size := by
    rcases Nat.lt_or_ge b w.heap.size with h' | h'
    · exact h'
    · simp [World.cell?, Array.getElem?_eq_none h'] at hc
  have : w'.heap[b]? = w.heap[b]? := hb.block b hlt
  simp only [World.cell?, this] at hc ⊢
  exact hc
/-- Stable memory with all that is new. -/
def memNew (M : Mem) (w w' : World) : Mem := fun b o => if w.heap.size ≤ b then w'.cell? ⟨b, o, none⟩ else M b o
theorem memNew_grow {M : Mem} {w w' : World} (h : MemOK M w) : Grow w.heap.size M (memNew M w w') := by
  refine ⟨fun b o u e => ?_, fun b o u e => ?_⟩
  · have hc := h b o u e
    have hlt : ¬ w.heap.size ≤ b := fun h' => by simp [World.cell?, Array.getElem?_eq_none h'] at hc
    simp only [memNew, if_neg hlt]; exact e
  · simp only [memNew] at e
    split at e
    · rename_i h'; exact .inr h'
    · exact .inl e
theorem memNew_ok {M : Mem} {w w' : World} (h : MemOK M w) (hb : Below w.heap.size w w') : MemOK (memNew M w w') w' := by
  intro b o u e
  simp only [memNew] at e
  split at e
  · exact e
  · exact memOK_below h hb b o u e

theorem tab_cells {x : TabX} {w : World} (h : GlobB x w) {g : Nat} {t : Array Value} (m : (g, t) ∈ tabsL x) (o : Nat) : w.cell? ⟨g, o, none⟩ = t[o]? := by
  obtain ⟨e, fr, c⟩ := h g t m
  simp [World.cell?, c]
theorem tab_is {x : TabX} {w : World} (h : GlobB x w) {g : Nat} {name : String} {k : IntKind} {zs : List Int} (hn : Tryz.prog.globalNamed name = some g) (m : (g, (zs.map fun z => Value.int k z).toArray) ∈ tabsL x) : Lib.TabIs Tryz.prog w name k zs := by
  obtain ⟨e, fr, c⟩ := h g _ m
  simp [Lib.TabIs, World.var?, hn, c]

theorem Itoa (n : Int) (h0 : -9223372036854775808 ≤ n) (h1 : n ≤ 9223372036854775807) : CallP Tryz.prog 74 [vI n] (vT (Lib.itoa n)) := by
  refine ⟨Tryz.call74, fun M w vs hg hr hM => ?_⟩
  match vs, hr with
  | [v], ⟨h, _⟩ =>
    obtain rfl : v = .int .i64 n := h
    obtain ⟨x, hx⟩ := hg
    refine (Tryz.strconv_Itoa n h0 h1 w (tab_is hx (g := 5) (by kernel_rfl) (by simp [tabsL, pow10A]))).mono ?_
    rintro e w' ⟨rfl, k, os, rfl⟩
    have hb : Below w.heap.size w (Sort.grow (w.drewN k) os) := ⟨rfl, rfl, rfl, by show w.heap.size ≤ (w.heap ++ os).size; rw [Array.size_append]; omega, fun _ hj => Sort.heap_grow_old (w.drewN k) os hj⟩
    exact ⟨_, M, rfl, rfl, Grow.refl _ _, memOK_below hM hb, hb⟩

def atN (l : List UInt8) : Int := match Lib.atoiAll l with | .ok v => v | .range => Lib.atoiSat l | _ => 0
def atE (l : List UInt8) : Bool := match Lib.atoiAll l with | .ok _ => false | _ => true
theorem Atoi (l : List UInt8) (hl : l.length ≤ 281474976710656) : CallP Tryz.prog 32 [vT l] (.t [.s (.d (.val (.int .i64 (atN l)))), .s (.d (.err (atE l)))]) := by
  refine ⟨Tryz.call32, fun M w vs hg hr hM => ?_⟩
  match vs, hr with
  | [v], ⟨h, _⟩ =>
    obtain rfl : v = .string (bs l) := h
    obtain ⟨x, hx⟩ := hg
    have hs : (bs l).size ≤ 281474976710656 := by rw [bs_size]; exact hl
    cases ha : Lib.atoiAll l with
    | ok n =>
      refine (Tryz.strconv_Atoi_ok (bs l) (by omega) n ha w).mono ?_
      rintro e w' ⟨rfl, hw⟩
      have hb : Below w.heap.size w w' := by
        rcases hw with rfl | ⟨t, rfl⟩
        · exact Below.refl _ _
        · exact Lib.bytesWorld_below _ _ _
      refine ⟨_, M, rfl, ?_, Grow.refl _ _, memOK_below hM hb, hb⟩
      simp only [atN, atE, ha]
      exact ⟨[_, _], rfl, rfl, .inl ⟨rfl, rfl⟩, trivial⟩
    | range =>
      refine (Tryz.strconv_Atoi_range (bs l) hs ha (.iface x.t3 x.p3) w (by rw [tab_cells hx (t := #[.iface x.t3 x.p3]) (by simp [tabsL])]; rfl) (.inr ⟨_, _, rfl⟩)).mono ?_
      rintro e w' ⟨N, rfl, _, _, hb⟩
      refine ⟨_, M, rfl, ?_, Grow.refl _ _, memOK_below hM hb, hb⟩
      simp only [atN, atE, ha]
      exact ⟨[_, _], rfl, rfl, .inr ⟨rfl, _, _, rfl⟩, trivial⟩
    | _ =>
      refine (Tryz.strconv_Atoi_bad (bs l) hs (by show notNum (Lib.atoiAll l) = true; rw [ha]; rfl) (.iface x.t2 x.p2) w (by rw [tab_cells hx (t := #[.iface x.t2 x.p2]) (by simp [tabsL])]; rfl) (.inr ⟨_, _, rfl⟩)).mono ?_
      rintro e w' ⟨N, rfl, _, _, hb⟩
      refine ⟨_, M, rfl, ?_, Grow.refl _ _, memOK_below hM hb, hb⟩
      simp only [atN, atE, ha]
      exact ⟨[_, _], rfl, rfl, .inr ⟨rfl, _, _, rfl⟩, trivial⟩

def dTs (ls : List (List UInt8)) : DV := .slc ls.length 1 fun i _ => dT (ls.getD i [])
theorem Fields (l : List UInt8) (hl : l.length < 4294967281) : CallP Tryz.prog 31 [vT l] (.s (.d (dTs (Lib.fieldsD l)))) := by
  refine ⟨Tryz.call31, fun M w vs hg hr hM => ?_⟩
  match vs, hr with
  | [v], ⟨h, _⟩ =>
    obtain rfl : v = .string (bs l) := h
    obtain ⟨x, hx⟩ := hg
    have hW : Lib.WhiteTab 1 w := by
      have m1 := tab_cells hx (g := 1) (t := #[.pointer (some ⟨x.T, x.oT, none⟩)]) (by simp [tabsL]) 0
      have mT := tab_cells hx (g := x.T) (t := x.cT) (by simp [tabsL])
      have mR := tab_cells hx (g := x.R) (t := x.cR) (by simp [tabsL])
      exact ⟨x.T, x.oT, x.R, x.oR, m1, (mT _).trans x.h0, (mT _).trans x.h1, (mT _).trans x.h2, fun i hi => (mR _).trans (x.h3 i hi)⟩
    refine (Tryz.strings_Fields_any (bs l) w (by rw [bs_size]; exact hl) (tab_is hx (g := 0) (by kernel_rfl) (by simp [tabsL, spaceA])) hW).mono ?_
    rintro e w' ⟨A, rfl, hA, hown, hb⟩
    have e1 : (bs l).data.toList = l := rfl
    rw [e1] at hown ⊢
    refine ⟨_, memNew M w w', rfl, ?_, memNew_grow hM, memNew_ok hM hb, hb⟩
    refine ⟨_, _, rfl, Nat.le_refl _, ?_⟩
    refine .inr ⟨A, 0, rfl, fun i j hi hj => ?_⟩
    obtain rfl : j = 0 := by omega
    have hc := hown.cells (g := A) rfl i (.string (bs ((Lib.fieldsD l).getD i []))) (by
      rw [List.getElem?_map, List.getElem?_eq_getElem hi]; simp [List.getD, List.getElem?_eq_getElem hi, bs])
    refine ⟨_, ?_, rfl⟩
    have ea : (⟨A, 0, none⟩ : Addr).add i = ⟨A, i, none⟩ := by unfold Addr.add; split <;> simp_all
    rw [ea] at hc
    simp only [memNew, hA, if_true]
    simpa using hc
end Go.Ch

set_option linter.unusedVariables false
/- strings.Builder in this seat: copyCheck, WriteString, String. -/
namespace Go.Proofs
open Go.RowKit Go.Lib


set_option maxHeartbeats 1000000 in
set_option maxRecDepth 100000 in
/-- String of a builder that holds bytes: it freezes them. -/
theorem Tryz.String_row {T : TypeId} (b g cap : Nat) (p : Value) (cur : Array Value) (l : List UInt8) (w : World) (hbk : w.heap[b]? = some (.cells #[p, .slice (some ⟨g, 0, none⟩) l.length cap] T (0, 0))) (h0 : l ≠ []) (hg : w.heap[g]? = some (.cells cur 5 (0, 0)))
    (hnc : l.length ≤ cap) (hcm : cap ≤ maxLen) (hcs : cur.size = cap) (hcur : ∀ (j : Nat) (x : UInt8), l[j]? = some x → cur[j]? = some (Value.int .u8 x.toNat)) :
    Calls Tryz.prog 45 #[.pointer (some ⟨b, 0, none⟩)] w fun e w' => e = .returned (.string ⟨l.toArray⟩) ∧ w' = w.drew.freeze ⟨g, 0, none⟩ l.length := by
  have hl0 : l.length ≠ 0 := by simpa using h0
  have c1 : w.drew.cell? ⟨b, 1, none⟩ = some (.slice (some ⟨g, 0, none⟩) l.length cap) := by
    have : w.drew.heap[b]? = some (.cells #[p, .slice (some ⟨g, 0, none⟩) l.length cap] T (0, 0)) := hbk
    rw [Lib.cell_of_heap this]; rfl
  have hSD : (Builtin.unsafeSliceData_ #[93] 138 #[.slice (some ⟨g, 0, none⟩) l.length cap]).run Tryz.prog w.drew = .ok (.pointer (some ⟨g, 0, none⟩)) w.drew :=
    Lib.run_unsafeSliceData_row _ _ _ _ _ _ (by omega)
  have hUS : (Builtin.unsafeString_ #[138, 3] 9 #[.pointer (some ⟨g, 0, none⟩), .int .i64 l.length]).run Tryz.prog w.drew = .ok (.string ⟨l.toArray⟩) (w.drew.freeze ⟨g, 0, none⟩ l.length) := by
    refine Lib.run_unsafeString_row w.drew 138 3 9 5 Tryz.underlying138 (by kernel_rfl) g cur.size (by have hg' : w.drew.heap[g]? = some (.cells cur 5 (0, 0)) := hg; simp [World.shape?, hg']) l h0 (by omega) (by unfold maxLen at hcm; omega) ?_
    intro j x hx
    have hg' : w.drew.heap[g]? = some (.cells cur 5 (0, 0)) := hg
    have := hcur j x hx
    have ea : (⟨g, 0, none⟩ : Addr).add j = ⟨g, j, none⟩ := by unfold Addr.add; split <;> simp_all
    rw [ea]; simp [World.cell?, hg', this]
  have t72 := Tryz.underlying95; have a72 := Tryz.isAgg95; have z72 := Tryz.sizeOf95; have v72 := Tryz.zeroValue95
  have t70 := Tryz.underlying92; have a70 := Tryz.isAgg92; have z70 := Tryz.sizeOf92; have v70 := Tryz.zeroValue92
  have t37 := Tryz.underlying93; have a37 := Tryz.isAgg93; have z37 := Tryz.sizeOf93; have v37 := Tryz.zeroValue93
  have t127 := Tryz.underlying138; have a127 := Tryz.isAgg138; have z127 := Tryz.sizeOf138
  have t3 := Tryz.underlying3; have a3 := Tryz.isAgg3; have z3 := Tryz.sizeOf3
  have t9 := Tryz.underlying9; have a9 := Tryz.isAgg9; have z9 := Tryz.sizeOf9
  have t5 := Tryz.underlying5; have a5 := Tryz.isAgg5; have z5 := Tryz.sizeOf5
  have mixed : Tryz.prog.follows .mixedOrders = true := by kernel_rfl
  go_enter Tryz.func45, Tryz.ntmps45
  go_wp2
  go_region_o
  all_goals (go_wp2; go_ret; exact ⟨rfl, rfl⟩)
end Go.Proofs

set_option linter.unusedVariables false
/- strings.Builder in this seat: copyCheck, WriteString, String. -/
namespace Go.Proofs
open Go.RowKit Go.Lib

set_option maxHeartbeats 1000000 in
set_option maxRecDepth 100000 in
theorem Tryz.copyCheck_used (b : Nat) (w : World) (h0 : w.cell? ⟨b, 0, none⟩ = some (.pointer (some ⟨b, 0, none⟩))) :
    Calls Tryz.prog 106 #[.pointer (some ⟨b, 0, none⟩)] w fun e w' => e = .returned (.tuple #[]) ∧ w' = w := by
  obtain ⟨j, hj⟩ : ∃ j, Tryz.prog.info? 95 = some j := ⟨Tryz.t95, by kernel_rfl⟩
  have t72 := Tryz.underlying95; have a72 := Tryz.isAgg95; have z72 := Tryz.sizeOf95; have v72 := Tryz.zeroValue95; skip
  have t70 := Tryz.underlying92; have a70 := Tryz.isAgg92; have z70 := Tryz.sizeOf92; have v70 := Tryz.zeroValue92
  have t9 := Tryz.underlying9; have a9 := Tryz.isAgg9; have z9 := Tryz.sizeOf9
  have t4 := Tryz.underlying4; have a4 := Tryz.isAgg4; have z4 := Tryz.sizeOf4
  go_enter Tryz.func106, Tryz.ntmps106
  go_wp2
  rw [Lib.run_neq_ptr_same w _ Tryz.underlying92 hj]
  go_wp2
  go_end0
  exact ⟨rfl, rfl⟩

set_option maxHeartbeats 1000000 in
set_option maxRecDepth 100000 in
theorem Tryz.copyCheck_fresh (b : Nat) (w : World) (h0 : w.cell? ⟨b, 0, none⟩ = some (.pointer none)) (hsh : w.shape? b = some (95, 2)) (hfz : w.frozen? ⟨b, 0, none⟩ = false) :
    Calls Tryz.prog 106 #[.pointer (some ⟨b, 0, none⟩)] w fun e w' => e = .returned (.tuple #[]) ∧ w' = w.setCell ⟨b, 0, none⟩ (.pointer (some ⟨b, 0, none⟩)) := by
  obtain ⟨j, hj, hjs⟩ : ∃ j, Tryz.prog.info? 95 = some j ∧ j.size = 2 := ⟨Tryz.t95, by kernel_rfl, rfl⟩
  have t72 := Tryz.underlying95; have a72 := Tryz.isAgg95; have z72 := Tryz.sizeOf95; have v72 := Tryz.zeroValue95
  have t70 := Tryz.underlying92; have a70 := Tryz.isAgg92; have z70 := Tryz.sizeOf92; have v70 := Tryz.zeroValue92
  have t9 := Tryz.underlying9; have a9 := Tryz.isAgg9; have z9 := Tryz.sizeOf9
  have t4 := Tryz.underlying4; have a4 := Tryz.isAgg4; have z4 := Tryz.sizeOf4
  have t164 := Tryz.underlying189; have a164 := Tryz.isAgg189; have z164 := Tryz.sizeOf189
  go_enter Tryz.func106, Tryz.ntmps106
  go_wp2
  rw [Lib.run_to_unsafe w ⟨b, 0, none⟩ Tryz.underlying92 Tryz.underlying189 hj (by rw [hjs]; decide) hsh (Nat.zero_lt_succ 1)]
  simp only [Result.andThen]
  rw [Oper.upon_value]
  go_wp2
  rw [run_callFunc_extern Tryz.func133 (by kernel_rfl) (by kernel_rfl) (by kernel_rfl) (e := Extern.AbiNoEscape.same) (by kernel_rfl)]
  rw [Lib.run_noEscape]
  simp only [Result.andThen]
  rw [Oper.upon_value]
  go_wp2
  rw [Lib.run_from_unsafe w ⟨b, 0, none⟩ Tryz.underlying189 Tryz.underlying92 hj hsh (by kernel_rfl)]
  simp only [Result.andThen]
  rw [Oper.upon_value]
  go_wp2
  go_end0
  exact ⟨rfl, rfl⟩

section
variable {P : Program} {w : World}
theorem Tryz.run_app (t u ty e : TypeId) (i : TypeInfo) (ht : P.underlying t = some (.slice e)) (hu : P.underlying u = some .string) (hi : P.info? e = some i) (hz : i.zero = some (.int .u8 0))
    (hsize : i.size = 1) (hby : i.bytes = 1) (v : Value) (n : Nat) (xs : List Value) (hown : w.ownsRow 0 e 1 v n xs) (s : ByteArray) (h63 : n + s.size ≤ maxLen) (hbytes : n + s.size ≤ 140737488355328) :
    ∃ v' w', (Builtin.append_ #[t, u] ty #[v, .string s]).run P w = .ok v' w' ∧ w'.ownsRow 0 e 1 v' (n + s.size) (xs ++ strCells s) ∧ w.grownBy w' v.ownBlock ∧
      ∀ g, v'.ownBlock = some g → v.ownBlock = some g ∨ w.heap.size ≤ g := by
  obtain ⟨v', w', hr, h1, h2, h3⟩ := Lib.run_append_own_string (P := P) w 0 t u ty e i ht hu hi hz hsize hby v n xs hown s h63 hbytes (Nat.zero_le _)
  refine ⟨v', w', hr, h1, h2, fun g hg => ?_⟩
  have hsmall : n + s.size ≤ 9223372036854775807 := by simp only [maxLen] at h63; omega
  have hxl : xs.length = n := by simpa using hown.1
  rcases hown.2 with ⟨rfl, rfl⟩ | ⟨b, cap, cur, rfl, hbg, hgb, hnc, hcm, hcs, htake⟩
  · by_cases hm : s.size = 0
    · rw [h3.2 ⟨rfl, hm⟩] at hg; cases hg
    · have hr2 := run_append_nil_string (P := P) w t u ty e i (.int .u8 0) ht hu hi hz s (by omega) (by omega) (by rw [hby]; omega)
      rw [hr] at hr2
      injection hr2 with q1 q2
      rw [q1] at hg
      simp only [Value.ownBlock, Option.some.injEq] at hg
      exact .inr (by omega)
  · by_cases hroom : n + s.size ≤ cap
    · have hcs' : cur.size = cap := by simpa using hcs
      have hr2 := Lib.run_append_room_string (P := P) w t u ty e i ht hu hi hsize b n cap cur hgb s hroom (by omega)
      rw [hr] at hr2
      injection hr2 with q1 q2
      rw [q1] at hg
      exact .inl hg
    · have holds : ∀ j u, xs[j]? = some u → w.cell? ((⟨b, 0, none⟩ : Addr).add j) = some u := hown.cells (g := b) rfl
      have hr2 := Lib.run_append_grow_string (P := P) w t u ty e i (.int .u8 0) ht hu hi hz ⟨b, 0, none⟩ n cap xs (by rw [hsize]; simpa using hxl) holds s (by omega) (by omega) (by rw [hby]; exact growslice_fits (by omega) (by omega))
      rw [hr] at hr2
      injection hr2 with q1 q2
      rw [q1] at hg
      simp only [Value.ownBlock, Option.some.injEq] at hg
      exact .inr (by omega)
theorem Tryz.wpList_app {ops : Array Oper} {rest : List Oper} {o : Oper} {a : Act} {Q : Exit → Act → World → Prop} (hgd : o.guard = none) (sl x : Operand) (t u : TypeId)
    (ho : o.op = .call { callee := .builtin .append, args := #[sl, x], argTypes := #[t, u] })
    (e : TypeId) (i : TypeInfo) (ht : P.underlying t = some (.slice e)) (hu : P.underlying u = some .string) (hi : P.info? e = some i) (hz : i.zero = some (.int .u8 0))
    (hsize : i.size = 1) (hby : i.bytes = 1)
    (v : Value) (n : Nat) (xs : List Value) (hs : a.eval sl = v) (hown : w.ownsRow 0 e 1 v n xs) (s : ByteArray) (hx : a.eval x = .string s)
    (h63 : n + s.size ≤ maxLen) (hbytes : n + s.size ≤ 140737488355328)
    (h : ∀ v' w', w'.ownsRow 0 e 1 v' (n + s.size) (xs ++ strCells s) → w.grownBy w' v.ownBlock → (∀ g, v'.ownBlock = some g → v.ownBlock = some g ∨ w.heap.size ≤ g) → wpList P ops Q rest (a.put o.dst v') w') : wpList P ops Q (o :: rest) a w := by
  refine wpList_plain hgd fun K hK => ?_
  obtain ⟨v', w', hr, h2, h3, h4⟩ := Tryz.run_app (P := P) (w := w) t u o.type e i ht hu hi hz hsize hby v n xs hown s h63 hbytes
  unfold Oper.wp execOp
  simp only [ho, resolve, invoke, builtin, Sem.run_bind, Sem.run_pure, Result.andThen_ok, List.map_toArray, List.map_cons, List.map_nil, hs, hx, hr]
  exact hK _ _ (h v' w' h2 h3 h4)
end

set_option maxHeartbeats 2000000 in
set_option maxRecDepth 100000 in
/-- WriteString at a used builder: its row grows; nothing else turns. -/
theorem Tryz.WriteString_used {T : TypeId} (b : Nat) (v : Value) (bs : List Value) (s : ByteArray) (w : World) (hbk : w.heap[b]? = some (.cells #[.pointer (some ⟨b, 0, none⟩), v] T (0, 0))) (hown : w.ownsRow 0 5 1 v bs.length bs) (hne : v.ownBlock ≠ some b)
    (hlen : bs.length + s.size ≤ 140737488355328) :
    Calls Tryz.prog 73 #[.pointer (some ⟨b, 0, none⟩), .string s] w fun e w' => e = .returned (.tuple #[.int .i64 s.size, .nilIface]) ∧ ∃ v' w2, w' = w2.setCell ⟨b, 1, none⟩ v' ∧ w2.ownsRow 0 5 1 v' (bs.length + s.size) (bs ++ Lib.strCells s) ∧ w.grownBy w2 v.ownBlock ∧ w2.heap[b]? = w.heap[b]? ∧ ∀ g, v'.ownBlock = some g → v.ownBlock = some g ∨ w.heap.size ≤ g := by
  obtain ⟨i0, hi, hz0, hz1, hz2⟩ : ∃ i, Tryz.prog.info? 5 = some i ∧ i.zero = some (.int .u8 0) ∧ i.size = 1 ∧ i.bytes = 1 := ⟨Tryz.t5, by kernel_rfl, rfl, rfl, rfl⟩
  have t72 := Tryz.underlying95; have a72 := Tryz.isAgg95; have z72 := Tryz.sizeOf95; have v72 := Tryz.zeroValue95
  have t70 := Tryz.underlying92; have a70 := Tryz.isAgg92; have z70 := Tryz.sizeOf92; have v70 := Tryz.zeroValue92
  have t37 := Tryz.underlying93; have a37 := Tryz.isAgg93; have z37 := Tryz.sizeOf93; have v37 := Tryz.zeroValue93
  have t3 := Tryz.underlying3; have a3 := Tryz.isAgg3; have z3 := Tryz.sizeOf3
  have t9 := Tryz.underlying9; have a9 := Tryz.isAgg9; have z9 := Tryz.sizeOf9
  have t5 := Tryz.underlying5; have a5 := Tryz.isAgg5; have z5 := Tryz.sizeOf5
  have e240 : ∀ args w, (callFunc 106 args).run Tryz.prog w = .ok (.enter 106 args) w := Tryz.call106
  have c0 : w.cell? ⟨b, 0, none⟩ = some (.pointer (some ⟨b, 0, none⟩)) := by rw [Lib.cell_of_heap hbk]; rfl
  have c1 : w.cell? ⟨b, 1, none⟩ = some v := by rw [Lib.cell_of_heap hbk]; rfl
  go_enter Tryz.func73, Tryz.ntmps73
  go_wp2_with (go_at_fn 106; refine (Tryz.copyCheck_used b _ c0).mono ?_)
  rintro e w1 ⟨rfl, rfl⟩
  go_wp2_with (at_builtin; refine Tryz.wpList_app rfl _ _ 93 9 rfl 5 i0 Tryz.underlying93 Tryz.underlying9 hi hz0 hz1 hz2 _ _ _ rfl hown s rfl ?c3 ?c4 ?_)
  case c3 => unfold maxLen; omega
  case c4 => omega
  intro v' w2 hown' hgrow hnew
  have hlt : b < w1.heap.size := by
    rcases Nat.lt_or_ge b w1.heap.size with h' | h'
    · exact h'
    · simp [Array.getElem?_eq_none h'] at hbk
  have hbb : w2.heap[b]? = w1.heap[b]? := hgrow.block b hlt (fun e => hne e.symm)
  have hb2 := hbb.trans hbk
  have d0 : w2.cell? ⟨b, 0, none⟩ = some (.pointer (some ⟨b, 0, none⟩)) := by rw [Lib.cell_of_heap hb2]; rfl
  have d1 : w2.cell? ⟨b, 1, none⟩ = some v := by rw [Lib.cell_of_heap hb2]; rfl
  have f1 : w2.frozen? ⟨b, 1, none⟩ = false := Lib.frozen_of_heap hb2 1
  obtain ⟨ao, n', cap, rfl⟩ : ∃ ao n' cap, v' = .slice ao n' cap := by
    rcases hown'.2 with ⟨hv, _⟩ | ⟨g, cap, cur, hv, _⟩
    · exact ⟨_, _, _, hv⟩
    · exact ⟨_, _, _, hv⟩
  go_wp2
  go_ret2
  exact ⟨rfl, _, w2, rfl, hown', hgrow, hbb, hnew⟩
end Go.Proofs

set_option linter.unusedVariables false
/- strings.Builder in this seat: copyCheck, WriteString, String. -/
namespace Go.Proofs
open Go.RowKit Go.Lib

structure Tryz.Hold (p : Prop) : Prop where
  out : p
set_option maxHeartbeats 2000000 in
set_option maxRecDepth 100000 in
/-- WriteString at a fresh builder. -/
theorem Tryz.WriteString_fresh (b : Nat) (s : ByteArray) (w : World) (hbk : w.heap[b]? = some (.cells #[.pointer none, .slice none 0 0] 95 (0, 0))) (hlen : s.size ≤ 140737488355328) :
    Calls Tryz.prog 73 #[.pointer (some ⟨b, 0, none⟩), .string s] w fun e w' => e = .returned (.tuple #[.int .i64 s.size, .nilIface]) ∧ ∃ v' w2, w' = w2.setCell ⟨b, 1, none⟩ v' ∧ w2.ownsRow 0 5 1 v' s.size (Lib.strCells s) ∧ (w.setCell ⟨b, 0, none⟩ (.pointer (some ⟨b, 0, none⟩))).grownBy w2 none ∧ w2.heap[b]? = some (.cells #[.pointer (some ⟨b, 0, none⟩), .slice none 0 0] 95 (0, 0)) ∧ ∀ g, v'.ownBlock = some g → w.heap.size ≤ g := by
  obtain ⟨i0, hi, hz0, hz1, hz2⟩ : ∃ i, Tryz.prog.info? 5 = some i ∧ i.zero = some (.int .u8 0) ∧ i.size = 1 ∧ i.bytes = 1 := ⟨Tryz.t5, by kernel_rfl, rfl, rfl, rfl⟩
  have t72 := Tryz.underlying95; have a72 := Tryz.isAgg95; have z72 := Tryz.sizeOf95; have v72 := Tryz.zeroValue95
  have t70 := Tryz.underlying92; have a70 := Tryz.isAgg92; have z70 := Tryz.sizeOf92; have v70 := Tryz.zeroValue92
  have t37 := Tryz.underlying93; have a37 := Tryz.isAgg93; have z37 := Tryz.sizeOf93; have v37 := Tryz.zeroValue93
  have t3 := Tryz.underlying3; have a3 := Tryz.isAgg3; have z3 := Tryz.sizeOf3
  have t9 := Tryz.underlying9; have a9 := Tryz.isAgg9; have z9 := Tryz.sizeOf9
  have t5 := Tryz.underlying5; have a5 := Tryz.isAgg5; have z5 := Tryz.sizeOf5
  have e240 : ∀ args w, (callFunc 106 args).run Tryz.prog w = .ok (.enter 106 args) w := Tryz.call106
  have c0 : w.cell? ⟨b, 0, none⟩ = some (.pointer none) := by rw [Lib.cell_of_heap hbk]; rfl
  have hsh : w.shape? b = some (95, 2) := by simp [World.shape?, hbk]
  have hfz : w.frozen? ⟨b, 0, none⟩ = false := Lib.frozen_of_heap hbk 0
  go_enter Tryz.func73, Tryz.ntmps73
  go_wp2_with (go_at_fn 106; refine (Tryz.copyCheck_fresh b _ c0 hsh hfz).mono ?_)
  rintro e w1 ⟨rfl, hw1⟩
  have hb1 : w1.heap[b]? = some (.cells #[.pointer (some ⟨b, 0, none⟩), .slice none 0 0] 95 (0, 0)) := by rw [hw1]; simp [World.setCell, Array.getElem?_modify, hbk]
  have hs1 : w1.heap.size = w.heap.size := by rw [hw1]; simp [World.setCell]
  have c1 : w1.cell? ⟨b, 1, none⟩ = some (.slice none 0 0) := by rw [Lib.cell_of_heap hb1]; rfl
  have HW : Tryz.Hold (w1 = w.setCell ⟨b, 0, none⟩ (.pointer (some ⟨b, 0, none⟩))) := ⟨hw1⟩
  clear hw1 c0 hsh hfz hbk
  have HS : Tryz.Hold (w1.heap.size = w.heap.size) := ⟨hs1⟩
  clear hs1
  have c00 : w1.cell? ⟨b, 0, none⟩ = some (.pointer (some ⟨b, 0, none⟩)) := by rw [Lib.cell_of_heap hb1]; rfl
  go_wp2_with (at_builtin; refine Tryz.wpList_app rfl _ _ 93 9 rfl 5 i0 Tryz.underlying93 Tryz.underlying9 hi hz0 hz1 hz2 _ _ _ rfl (World.ownsRow_nil w1 0 5 1) s rfl ?c3 ?c4 ?_)
  case c3 => unfold maxLen; omega
  case c4 => omega
  intro v' w2 hown' hgrow hnew
  have hlt : b < w1.heap.size := by
    rcases Nat.lt_or_ge b w1.heap.size with h' | h'
    · exact h'
    · simp [Array.getElem?_eq_none h'] at hb1
  have hbb : w2.heap[b]? = w1.heap[b]? := hgrow.block b hlt (fun e => by cases e)
  have hb2 := hbb.trans hb1
  have d0 : w2.cell? ⟨b, 0, none⟩ = some (.pointer (some ⟨b, 0, none⟩)) := by rw [Lib.cell_of_heap hb2]; rfl
  have d1 : w2.cell? ⟨b, 1, none⟩ = some (.slice none 0 0) := by rw [Lib.cell_of_heap hb2]; rfl
  have f1 : w2.frozen? ⟨b, 1, none⟩ = false := Lib.frozen_of_heap hb2 1
  obtain ⟨ao, n', cap, rfl⟩ : ∃ ao n' cap, v' = .slice ao n' cap := by
    rcases hown'.2 with ⟨hv, _⟩ | ⟨g, cap, cur, hv, _⟩
    · exact ⟨_, _, _, hv⟩
    · exact ⟨_, _, _, hv⟩
  go_wp2
  go_ret2
  exact ⟨rfl, _, w2, rfl, by simpa using hown', HW.out ▸ hgrow, hb2, fun g hg => (hnew g hg).elim (fun e => by cases e) (fun e => by have := HS.out; omega)⟩
end Go.Proofs

/- strings.Builder as contracts: WriteString, String. -/
namespace Go.Ch
open Go Go.Ax Go.Proofs Go.Proofs.Tryz Go.RowKit
set_option maxRecDepth 100000

def byteF (l : List UInt8) : Nat → Nat → DV := fun i _ => .val (.int .u8 ((l.getD i 0).toNat : Int))
/-- A builder that has been written to: two boxes. -/
abbrev bld (x : Nat) (l : List UInt8) : List (Nat × Box) := [(0, .cells [.ptr 0 0, .own x]), (x, .row 5 l.length 1 (byteF l))]
abbrev rWS (s : List UInt8) : AV := .t [.s (.d (.val (.int .i64 s.length))), .s (.d (.val .nilIface))]
def cellsOf (l : List UInt8) : List Value := l.map fun b => .int .u8 (b.toNat : Int)
theorem strCells_bs (l : List UInt8) : Lib.strCells (bs l) = cellsOf l := by
  simp [Lib.strCells, bs, cellsOf]
theorem cellsOf_app (a b : List UInt8) : cellsOf a ++ cellsOf b = cellsOf (a ++ b) := by simp [cellsOf]

theorem own_row {w2 : World} {v' : Value} {l : List UInt8} (hown : w2.ownsRow 0 5 1 v' l.length (cellsOf l)) (hl : l ≠ []) :
    ∃ g cap cur, v' = .slice (some ⟨g, 0, none⟩) l.length cap ∧ w2.heap[g]? = some (.cells cur 5 (0, 0)) ∧ l.length ≤ cap ∧ cap ≤ maxLen ∧ cur.size = cap * 1 ∧ ∀ (j : Nat) (x : UInt8), l[j]? = some x → cur[j]? = some (Value.int .u8 (x.toNat : Int)) := by
  rcases hown.2 with ⟨_, h0⟩ | ⟨g, cap, cur, hv, _, hg, hn, hc, hs, ht⟩
  · exact absurd (List.length_eq_zero_iff.1 h0) hl
  · refine ⟨g, cap, cur, hv, hg, hn, hc, hs, fun j x hx => ?_⟩
    have h1 : (cellsOf l)[j]? = some (.int .u8 (x.toNat : Int)) := by simp [cellsOf, hx]
    rw [← ht] at h1
    have hj : j < l.length := (List.getElem?_eq_some_iff.1 hx).1
    rw [List.getElem?_take_of_lt (by omega)] at h1
    simpa using h1

theorem WS_fin {M : Mem} {β : Nm} {w w2 : World} {b : Nat} {c : Nat × Nat} {T : TypeId} {vo v' : Value} {l : List UInt8} (hl : l ≠ []) (hM : MemOK M w) (eb : β 0 = some (b, c)) (hb : b < w.heap.size) (ha : ∀ o, M b o = none)
    (G : Nat → Prop) (hG : ∀ g, G g → (∃ y c, β y = some (g, c)) ∧ ∀ o, M g o = none) (hfr : ∀ k, k < w.heap.size → k ≠ b → ¬ G k → w2.heap[k]? = w.heap[k]?) (h2 : β 2 = none)
    (hb2 : w2.heap[b]? = some (.cells #[.pointer (some ⟨b, 0, none⟩), vo] T (0, 0))) (hown : w2.ownsRow 0 5 1 v' l.length (cellsOf l)) (hnew : ∀ g, v'.ownBlock = some g → (G g ∧ g ≠ b) ∨ w.heap.size ≤ g)
    (ho : w2.os = w.os) (ht : w2.tape = w.tape) (hou : w2.output = w.output) (hsz : w.heap.size ≤ w2.heap.size) :
    ∃ M' β', Nm.le β β' ∧ Grow w.heap.size M M' ∧ MemOK M' (w2.setCell ⟨b, 1, none⟩ v') ∧ BoxesOK M' β' (w2.setCell ⟨b, 1, none⟩ v') (bld 2 l) ∧
      (∀ x k c, x ∈ names (bld 2 l) → β' x = some (k, c) → w.heap.size ≤ k ∨ ∃ y c', β y = some (k, c')) ∧
      (w2.setCell ⟨b, 1, none⟩ v').os = w.os ∧ (w2.setCell ⟨b, 1, none⟩ v').tape = w.tape ∧ (w2.setCell ⟨b, 1, none⟩ v').output = w.output ∧ w.heap.size ≤ (w2.setCell ⟨b, 1, none⟩ v').heap.size ∧
      (∀ k, k < w.heap.size → (∀ y c, β y ≠ some (k, c)) → (w2.setCell ⟨b, 1, none⟩ v').heap[k]? = w.heap[k]?) := by
  obtain ⟨g, cap, cur, rfl, hg, hn, hc, hs, hcur⟩ := own_row hown hl
  have hgn := hnew g rfl
  have hgb : g ≠ b := by
    rcases hgn with ⟨_, h⟩ | h
    · exact h
    · omega
  have hoth : ∀ k, k ≠ b → (w2.setCell ⟨b, 1, none⟩ (.slice (some ⟨g, 0, none⟩) l.length cap)).heap[k]? = w2.heap[k]? := fun k hk => Below.heap_setCell _ _ _ _ hk
  have hbb : (w2.setCell ⟨b, 1, none⟩ (.slice (some ⟨g, 0, none⟩) l.length cap)).heap[b]? = some (.cells #[.pointer (some ⟨b, 0, none⟩), .slice (some ⟨g, 0, none⟩) l.length cap] T (0, 0)) := by
    simp [World.setCell, Array.getElem?_modify, hb2]
  let β' : Nm := fun x => if x = 2 then some (g, (cap, l.length)) else β x
  have e2 : β' 2 = some (g, (cap, l.length)) := by simp [β']
  have e0 : β' 0 = some (b, c) := by simp [β', eb]
  refine ⟨M, β', ?_, Grow.refl _ _, ?_, ⟨?_, ?_, ?_, ?_⟩, ?_, ho, ht, hou, ?_, ?_⟩
  · intro x p e
    by_cases hx : x = 2
    · subst hx; rw [h2] at e; cases e
    · simp [β', hx, e]
  · intro k o u e
    have hc0 := hM k o u e
    have hk : k < w.heap.size := by
      rcases Nat.lt_or_ge k w.heap.size with h' | h'
      · exact h'
      · simp [World.cell?, Array.getElem?_eq_none h'] at hc0
    have hkb : k ≠ b := fun h => by rw [h, ha] at e; cases e
    have hkG : ¬ G k := fun h => by rw [(hG k h).2] at e; cases e
    have hh := (hoth k hkb).trans (hfr k hk hkb hkG)
    simp only [World.cell?, hh] at hc0 ⊢
    exact hc0
  · intro x hx
    simp only [names, List.mem_cons, List.not_mem_nil, or_false] at hx
    rcases hx with rfl | rfl
    · exact ⟨_, _, e0⟩
    · exact ⟨_, _, e2⟩
  · intro x bx hx
    simp only [List.mem_cons, Prod.mk.injEq, List.not_mem_nil, or_false] at hx
    rcases hx with ⟨rfl, rfl⟩ | ⟨rfl, rfl⟩
    · exact ⟨b, c, [_, _], T, e0, hbb, ⟨b, c, e0, rfl⟩, ⟨g, _, e2, rfl, hn⟩, trivial⟩
    · refine ⟨g, _, cur, e2, (hoth g hgb).trans hg, rfl, hs, hn, hc, fun i j hi hj => ?_⟩
      obtain rfl : j = 0 := by omega
      refine ⟨_, ?_, rfl⟩
      simpa [List.getD, hi] using hcur i l[i] (by simp [hi])
  · intro x y k c1 c2 hx hy e1 e3
    simp only [names, List.mem_cons, List.not_mem_nil, or_false] at hx hy
    rcases hx with rfl | rfl <;> rcases hy with rfl | rfl
    · rfl
    · rw [e0] at e1; rw [e2] at e3; cases e1; cases e3; exact absurd rfl hgb
    · rw [e2] at e1; rw [e0] at e3; cases e1; cases e3; exact absurd rfl hgb
    · rfl
  · intro x k c1 hx e o
    simp only [names, List.mem_cons, List.not_mem_nil, or_false] at hx
    rcases hx with rfl | rfl
    · rw [e0] at e; cases e; exact ha o
    · rw [e2] at e; cases e
      rcases hgn with ⟨h, _⟩ | h
      · exact (hG g h).2 o
      · cases hq : M g o with
        | none => rfl
        | some u =>
          have := hM g o u hq
          simp [World.cell?, Array.getElem?_eq_none h] at this
  · intro x k c1 hx e
    simp only [names, List.mem_cons, List.not_mem_nil, or_false] at hx
    rcases hx with rfl | rfl
    · rw [e0] at e; cases e; exact .inr ⟨0, c, eb⟩
    · rw [e2] at e; cases e
      rcases hgn with ⟨h, _⟩ | h
      · exact .inr (hG g h).1
      · exact .inl h
  · simp [World.setCell]; exact hsz
  · intro k hk hno
    have hkb : k ≠ b := fun h => hno 0 c (by rw [h]; exact eb)
    have hkG : ¬ G k := fun h => by obtain ⟨y, c1, e⟩ := (hG k h).1; exact hno y c1 e
    exact (hoth k hkb).trans (hfr k hk hkb hkG)

theorem WS_used (l s : List UInt8) (hl : l ≠ []) (hlen : l.length + s.length ≤ 140737488355328) :
    CallR Tryz.prog 73 [.s (.ptr 0 0), vT s] (bld 1 l) (rWS s) (bld 2 (l ++ s)) := by
  refine ⟨Tryz.call73, fun M β w vs _ hr hM hbx hkeys => ?_⟩
  match vs, hr with
  | [v1, v2], ⟨⟨b, c, eb, hv1⟩, h2, _⟩ =>
    obtain rfl : v2 = .string (bs s) := h2
    subst hv1
    obtain ⟨b', c', cs, T, eb', hbk, hrl⟩ := hbx.rep 0 _ (List.mem_cons_self)
    rw [eb] at eb'; cases eb'
    obtain ⟨g, c1, cur, eg, hg, hgn, hgs, hgc, hgm, hcells⟩ := hbx.rep 1 (.row 5 l.length 1 (byteF l)) (by simp)
    match cs, hrl with
    | [x0, x1], ⟨⟨q0, q1, e0, hx0⟩, ⟨g', c1', eg', hx1, hle⟩, _⟩ =>
      rw [eb] at e0; cases e0
      rw [eg] at eg'; cases eg'
      subst hx0; subst hx1
      have hbg : g ≠ b := fun e => by
        subst e
        have := hbx.inj 0 1 g c c1 (by simp [names]) (by simp [names]) eb eg
        cases this
      have hown : w.ownsRow 0 5 1 (.slice (some ⟨g, 0, none⟩) c1.2 c1.1) (cellsOf l).length (cellsOf l) := by
        refine ⟨by simp, .inr ⟨g, c1.1, cur, by simp [cellsOf, hgn], Nat.zero_le _, hg, by simp [cellsOf]; omega, hgm, hgs, ?_⟩⟩
        apply List.ext_getElem?
        intro j
        by_cases hj : j < l.length
        · obtain ⟨u, hu, hru⟩ := hcells j 0 hj (by omega)
          have hru' : u = .int .u8 ((l.getD j 0).toNat : Int) := hru
          rw [List.getElem?_take_of_lt (by simp [cellsOf]; omega)]
          have : cur.toList[j]? = some u := by simpa using hu
          rw [this, hru']
          simp [cellsOf, hj, List.getD]
        · rw [List.getElem?_take_eq_none (by simp [cellsOf]; omega), List.getElem?_eq_none (by simp [cellsOf]; omega)]
      have hwr := Tryz.WriteString_used b _ (cellsOf l) (bs s) w hbk hown (by simp [Value.ownBlock]; exact hbg) (by rw [bs_size]; simpa [cellsOf] using hlen)
      refine hwr.mono ?_
      rintro e w' ⟨rfl, v', w2, rfl, ho2, hgr, hb2, hnew⟩
      have hbl : b < w.heap.size := (Array.getElem?_eq_some_iff.1 hbk).1
      have h2n : β 2 = none := by
        cases h : β 2 with
        | none => rfl
        | some p => have := hkeys 2 p h; simp [names] at this
      obtain ⟨M', β', r1, r2, r3, r4, r5, r6⟩ := WS_fin (l := l ++ s) (v' := v') (w2 := w2) (by simp [hl]) hM eb hbl (hbx.apart 0 b c (by simp [names]) eb) (fun k => k = g) (fun k hk => by subst hk; exact ⟨⟨1, c1, eg⟩, hbx.apart 1 _ c1 (by simp [names]) eg⟩)
        (fun k hk _ hkg => hgr.block k hk (by simp [Value.ownBlock]; exact hkg)) h2n (hb2.trans hbk) (by
          have := ho2
          rw [strCells_bs, cellsOf_app, bs_size] at this
          simpa [cellsOf] using this) (fun k hk => (hnew k hk).imp (fun e => by simp [Value.ownBlock] at e; subst e; exact ⟨rfl, hbg⟩) id) hgr.os hgr.tape hgr.output hgr.size
      exact ⟨_, M', β', rfl, r1, ⟨[_, _], by rw [bs_size], rfl, rfl, trivial⟩, r2, r3, r4, r5, r6⟩

theorem WS_fresh (s : List UInt8) (hs : s ≠ []) (hlen : s.length ≤ 140737488355328) :
    CallR Tryz.prog 73 [.s (.ptr 0 0), vT s] [(0, .fresh 95 [.pointer none, .slice none 0 0])] (rWS s) (bld 2 s) := by
  refine ⟨Tryz.call73, fun M β w vs _ hr hM hbx hkeys => ?_⟩
  match vs, hr with
  | [v1, v2], ⟨⟨b, c, eb, hv1⟩, h2, _⟩ =>
    obtain rfl : v2 = .string (bs s) := h2
    subst hv1
    obtain ⟨b', c', eb', hbk⟩ := hbx.rep 0 _ (List.mem_cons_self)
    rw [eb] at eb'; cases eb'
    refine (Tryz.WriteString_fresh b (bs s) w hbk (by rw [bs_size]; exact hlen)).mono ?_
    rintro e w' ⟨rfl, v', w2, rfl, ho2, hgr, hb2, hnew⟩
    have hbl : b < w.heap.size := (Array.getElem?_eq_some_iff.1 hbk).1
    have h2n : β 2 = none := by
      cases h : β 2 with
      | none => rfl
      | some p => have := hkeys 2 p h; simp [names] at this
    have hs1 : (w.setCell ⟨b, 0, none⟩ (.pointer (some ⟨b, 0, none⟩))).heap.size = w.heap.size := by simp [World.setCell]
    obtain ⟨M', β', r1, r2, r3, r4, r5, r6⟩ := WS_fin (l := s) (v' := v') (w2 := w2) hs hM eb hbl (hbx.apart 0 b c (by simp [names]) eb) (fun _ => False) (fun _ h => h.elim)
      (fun k hk hkb _ => (hgr.block k (by rw [hs1]; exact hk) (by simp)).trans (Below.heap_setCell _ _ _ _ hkb)) h2n hb2 (by
        have := ho2
        rw [strCells_bs, bs_size] at this
        exact this) (fun k hk => .inr (hnew k hk)) hgr.os hgr.tape hgr.output (by have := hgr.size; omega)
    exact ⟨_, M', β', rfl, r1, ⟨[_, _], by rw [bs_size], rfl, rfl, trivial⟩, r2, r3, r4, r5, r6⟩

theorem BString (l : List UInt8) (hl : l ≠ []) : CallR Tryz.prog 45 [.s (.ptr 0 0)] (bld 1 l) (vT l) [] := by
  refine ⟨Tryz.call45, fun M β w vs _ hr hM hbx hkeys => ?_⟩
  match vs, hr with
  | [v1], ⟨⟨b, c, eb, hv1⟩, _⟩ =>
    subst hv1
    obtain ⟨b', c', cs, T, eb', hbk, hrl⟩ := hbx.rep 0 _ (List.mem_cons_self)
    rw [eb] at eb'; cases eb'
    obtain ⟨g, c1, cur, eg, hg, hgn, hgs, hgc, hgm, hcells⟩ := hbx.rep 1 (.row 5 l.length 1 (byteF l)) (by simp)
    match cs, hrl with
    | [x0, x1], ⟨⟨q0, q1, e0, hx0⟩, ⟨g', c1', eg', hx1, hle⟩, _⟩ =>
      rw [eb] at e0; cases e0
      rw [eg] at eg'; cases eg'
      subst hx0; subst hx1
      rw [hgn] at hbk
      refine (Tryz.String_row b g c1.1 _ cur l w hbk hl hg hgc hgm (by omega) ?_).mono ?_
      · intro j x hx
        have hj : j < l.length := (List.getElem?_eq_some_iff.1 hx).1
        obtain ⟨u, hu, hru⟩ := hcells j 0 hj (by omega)
        have hru' : u = .int .u8 ((l.getD j 0).toNat : Int) := hru
        have hx' : l.getD j 0 = x := by simp [List.getD, hx]
        rw [hx'] at hru'
        rw [← hru']; simpa using hu
      rintro e w' ⟨rfl, rfl⟩
      have hoth : ∀ k, k ≠ g → (w.drew.freeze ⟨g, 0, none⟩ l.length).heap[k]? = w.heap[k]? := fun k hk => by
        have hl0 : ¬ l.length = 0 := by simpa using hl
        simp only [World.freeze, World.drew, if_neg hl0]
        rw [Array.getElem?_modify, if_neg (fun e => hk e.symm)]
      have hfz : (w.drew.freeze ⟨g, 0, none⟩ l.length).os = w.os ∧ (w.drew.freeze ⟨g, 0, none⟩ l.length).tape = w.tape ∧ (w.drew.freeze ⟨g, 0, none⟩ l.length).output = w.output := by
        unfold World.freeze
        split <;> exact ⟨rfl, rfl, rfl⟩
      refine ⟨_, M, β, rfl, Nm.le_refl _, rfl, Grow.refl _ _, ?_, ⟨fun x hx => (by cases hx), fun x b hx => (by cases hx), fun x y b c c' hx => (by cases hx), fun x b c hx => (by cases hx)⟩, fun x b c hx => (by cases hx), hfz.1, hfz.2.1, hfz.2.2, ?_, ?_⟩
      · intro k o u e
        have hkg : k ≠ g := fun h => by rw [h, hbx.apart 1 g c1 (by simp [names]) eg] at e; cases e
        have hc0 := hM k o u e
        simp only [World.cell?, hoth k hkg] at hc0 ⊢
        exact hc0
      · have hl0 : ¬ l.length = 0 := by simpa using hl
        unfold World.freeze
        rw [if_neg hl0]
        simp
      · intro k hk hno
        exact hoth k (fun h => hno 1 c1 (by rw [h]; exact eg))
end Go.Ch

/- Numerals read back: digits, atoi. -/
namespace Go.Ch
open Go Go.Ax Go.Proofs Go.Proofs.Tryz
open Go.Lib (decDigits itoa decFrom digitVal nDigits)
set_option maxRecDepth 100000

theorem chr10_nat {d : Nat} (h : d < 10) : (chr10 d).toNat = 48 + d := by
  have : ∀ k : Fin 10, (chr10 k.val).toNat = 48 + k.val := by decide +kernel
  exact this ⟨d, h⟩
theorem dec_digit : ∀ (n u : Nat), u ≤ n → ∀ b ∈ decDigits u, 48 ≤ b.toNat ∧ b.toNat ≤ 57
  | n, u, h, b, hb => by
    by_cases hu : u < 10
    · rw [dec_one hu] at hb
      simp only [List.mem_cons, List.not_mem_nil, or_false] at hb
      subst hb
      rw [chr10_nat hu]; omega
    · rw [dec_step hu] at hb
      simp only [List.mem_append, List.mem_cons, List.not_mem_nil, or_false] at hb
      rcases hb with hb | hb
      · match n with
        | 0 => omega
        | n + 1 => exact dec_digit n (u / 10) (by omega) b hb
      · subst hb
        rw [chr10_nat (by omega)]; omega
theorem decFrom_snoc : ∀ (l : List UInt8) (acc n : Nat) (b : UInt8) (d : Nat), decFrom acc l = some n → digitVal b = some d → decFrom acc (l ++ [b]) = some (n * 10 + d)
  | [], acc, n, b, d, h, hb => by
    simp only [decFrom, Option.some.injEq] at h
    subst h
    simp [decFrom, hb]
  | a :: t, acc, n, b, d, h, hb => by
    simp only [decFrom, List.cons_append] at h ⊢
    cases ha : digitVal a with
    | none => rw [ha] at h; cases h
    | some e =>
      rw [ha] at h
      exact decFrom_snoc t _ n b d h hb
theorem digitVal_chr {d : Nat} (h : d < 10) : digitVal (chr10 d) = some d := by
  unfold digitVal
  rw [chr10_nat h, if_pos (by omega)]
  congr 1; omega
theorem dec_val : ∀ (n u : Nat), u ≤ n → decFrom 0 (decDigits u) = some u
  | n, u, h => by
    by_cases hu : u < 10
    · rw [dec_one hu]
      simp [decFrom, digitVal_chr hu]
    · rw [dec_step hu]
      match n with
      | 0 => omega
      | n + 1 =>
        rw [decFrom_snoc _ _ _ _ _ (dec_val n (u / 10) (by omega)) (digitVal_chr (by omega))]
        congr 1; omega
theorem itoa_cases (n : Int) : (n < 0 ∧ itoa n = 45 :: decDigits n.natAbs) ∨ (0 ≤ n ∧ itoa n = decDigits n.natAbs) := by
  unfold itoa
  by_cases h : n < 0
  · left; exact ⟨h, by rw [if_pos h]⟩
  · right; exact ⟨by omega, by rw [if_neg h, show n.toNat = n.natAbs by omega]⟩
theorem itoa_ne (n : Int) : itoa n ≠ [] := by
  rcases itoa_cases n with ⟨_, e⟩ | ⟨_, e⟩ <;> rw [e]
  · simp
  · exact dec_ne _
theorem itoa_byte (n : Int) : ∀ b ∈ itoa n, b.toNat = 45 ∨ (48 ≤ b.toNat ∧ b.toNat ≤ 57) := by
  intro b hb
  rcases itoa_cases n with ⟨_, e⟩ | ⟨_, e⟩ <;> rw [e] at hb
  · rcases List.mem_cons.1 hb with rfl | hb
    · exact .inl rfl
    · exact .inr (dec_digit _ _ (Nat.le_refl _) b hb)
  · exact .inr (dec_digit _ _ (Nat.le_refl _) b hb)
theorem itoa_len8 {n : Int} (h : n.natAbs < 100000000) : (itoa n).length ≤ 9 := by
  have hd : nDigits n.natAbs ≤ 8 := by
    rcases Nat.lt_or_ge 8 (nDigits n.natAbs) with h9 | h9
    · exfalso
      have h1 : ∀ k u, k < nDigits u → u ≠ 0 → 10 ^ k ≤ u := by
        intro k
        induction k with
        | zero => intro u _ h0; simp; omega
        | succ k ih =>
          intro u hk h0
          by_cases hu : u < 10
          · rw [Go.Lib.nDigits_small hu] at hk; omega
          · rw [Go.Lib.nDigits_big hu] at hk
            have := ih (u / 10) (by omega) (by omega)
            rw [Nat.pow_succ]; omega
      have h0 : n.natAbs ≠ 0 := by
        intro e; rw [e, Go.Lib.nDigits_small (by decide)] at h9; omega
      have := h1 8 n.natAbs h9 h0
      omega
    · exact h9
  rcases itoa_cases n with ⟨_, e⟩ | ⟨_, e⟩ <;> rw [e]
  · rw [List.length_cons, Go.Lib.decDigits_length]; omega
  · rw [Go.Lib.decDigits_length]; omega
theorem atoi_itoa {n : Int} (h : n.natAbs < 100000000) : Lib.atoiAll (itoa n) = .ok n := by
  rw [Lib.atoiAll_short _ (by have := itoa_len8 h; omega)]
  have hv := dec_val _ _ (Nat.le_refl n.natAbs)
  have hn : Lib.decNat (decDigits n.natAbs) = some n.natAbs := by
    unfold Lib.decNat
    rw [hv]
    cases hq : decDigits n.natAbs with
    | nil => exact absurd hq (dec_ne _)
    | cons _ _ => rfl
  have ho : Lib.atoi (itoa n) = some n := by
    rcases itoa_cases n with ⟨h0, e⟩ | ⟨h0, e⟩ <;> rw [e]
    · unfold Lib.atoi
      simp only [beq_self_eq_true, if_true, hn, Option.map]
      congr 1; omega
    · cases hq : decDigits n.natAbs with
      | nil => exact absurd hq (dec_ne _)
      | cons b r =>
        have hb := dec_digit _ _ (Nat.le_refl n.natAbs) b (by rw [hq]; exact List.mem_cons_self)
        unfold Lib.atoi
        have h1 : (b == 45) = false := by
          rw [beq_eq_false_iff_ne]; rintro rfl; simp at hb
        have h2 : (b == 43) = false := by
          rw [beq_eq_false_iff_ne]; rintro rfl; simp at hb
        simp only [h1, h2, Bool.false_eq_true, if_false]
        rw [← hq, hn]
        simp only [Option.map]
        congr 1; omega
  rw [ho]; rfl
theorem atN_itoa {n : Int} (h : n.natAbs < 100000000) : atN (itoa n) = n := by
  unfold atN; rw [atoi_itoa h]
theorem atE_itoa {n : Int} (h : n.natAbs < 100000000) : atE (itoa n) = false := by
  unfold atE; rw [atoi_itoa h]

/-- The reference's number: state behind i bytes; none: refused. -/
def numF (w : List UInt8) : Nat → Option (Int × Bool)
  | 0 => some (0, false)
  | i + 1 => match numF w i with
    | none => none
    | some (n, neg) =>
      bif i == 0 && w.getD i 0 == 45 then some (n, true)
      else bif decide ((w.getD i 0).toNat < 48) || decide ((w.getD i 0).toNat > 57) then none
      else some (10 * n + (((w.getD i 0).toNat : Int) - 48), neg)
def numV (w : List UInt8) : Int × Bool :=
  bif decide (w.length > 9) then (0, false)
  else match numF w w.length with
    | none => (0, false)
    | some (n, neg) => let m := bif neg then -n else n; (m, itoa m == w)
theorem numF_bound (w : List UInt8) : ∀ (i : Nat) (n : Int) (neg : Bool), numF w i = some (n, neg) → 0 ≤ n ∧ n < 10 ^ i
  | 0, n, neg, h => by
    simp only [numF, Option.some.injEq, Prod.mk.injEq] at h
    obtain ⟨rfl, rfl⟩ := h
    decide
  | i + 1, n, neg, h => by
    simp only [numF] at h
    cases hp : numF w i with
    | none => rw [hp] at h; cases h
    | some p =>
      obtain ⟨m, ng⟩ := p
      rw [hp] at h
      have hb := numF_bound w i m ng hp
      have hpow : (10 : Int) ^ (i + 1) = 10 ^ i * 10 := Int.pow_succ 10 i
      simp only at h
      cases h1 : (i == 0 && w.getD i 0 == 45) with
      | true =>
        rw [h1] at h
        simp only [cond_true, Option.some.injEq, Prod.mk.injEq] at h
        omega
      | false =>
        rw [h1] at h
        cases h2 : (decide ((w.getD i 0).toNat < 48) || decide ((w.getD i 0).toNat > 57)) with
        | true => rw [h2] at h; cases h
        | false =>
          rw [h2] at h
          simp only [cond_false, Option.some.injEq, Prod.mk.injEq] at h
          simp only [Bool.or_eq_false_iff, decide_eq_false_iff_not] at h2
          omega
theorem numV_bound (w : List UInt8) : (numV w).1.natAbs < 1000000000 := by
  unfold numV
  cases h : decide (w.length > 9) with
  | true => simp
  | false =>
    simp only [decide_eq_false_iff_not] at h
    simp only [cond_false]
    cases hp : numF w w.length with
    | none => simp
    | some p =>
      obtain ⟨n, neg⟩ := p
      have hb := numF_bound w _ n neg hp
      have : (10 : Int) ^ w.length ≤ 10 ^ 9 := by
        have := Nat.pow_le_pow_right (n := 10) (by decide) (show w.length ≤ 9 by omega)
        exact_mod_cast this
      have e9 : (10 : Int) ^ 9 = 1000000000 := by decide
      cases neg <;> simp <;> omega
theorem numF_dec (neg : Bool) : ∀ (p l : List UInt8) (k : Nat) (acc n : Nat), (p.length = 0 ∨ (p = [45])) → (neg = true ↔ p = [45]) → decFrom 0 (l.take k) = some n → k ≤ l.length → (∀ b ∈ l, 48 ≤ b.toNat ∧ b.toNat ≤ 57) → numF (p ++ l) (p.length + k) = some ((n : Int), neg) := by
  intro p l k acc
  induction k with
  | zero =>
    intro n hp hn h _ _
    simp only [List.take_zero, decFrom, Option.some.injEq] at h
    subst h
    rcases hp with hp | rfl
    · have : p = [] := List.length_eq_zero_iff.1 hp
      subst this
      cases neg with
      | true => exact absurd (hn.1 rfl) (by simp)
      | false => rfl
    · cases neg with
      | false => exact absurd (hn.2 rfl) (by simp)
      | true => simp [numF]
  | succ k ih =>
    intro n hp hn h hk hl
    obtain ⟨m, hm⟩ := Lib.decFrom_prefix _ _ _ h k
    rw [List.take_take, Nat.min_eq_left (Nat.le_succ k)] at hm
    have e := ih m hp hn hm (by omega) hl
    have hkl : k < l.length := by omega
    have hb := hl l[k] (List.getElem_mem hkl)
    have hdv : digitVal l[k] = some ((l[k]).toNat - 48) := by unfold digitVal; rw [if_pos hb]
    have h2 := Lib.decFrom_take l k 0 m l[k] _ hm (List.getElem?_eq_getElem hkl) hdv
    rw [h] at h2
    have h2 := Option.some.inj h2
    rw [← Nat.add_assoc]
    simp only [numF]
    rw [e]
    have eg : (p ++ l).getD (p.length + k) 0 = l[k] := by
      rw [List.getD_eq_getElem?_getD, List.getElem?_append_right (by omega), Nat.add_sub_cancel_left, List.getElem?_eq_getElem hkl]; rfl
    simp only [eg]
    have h45 : (l[k] == 45) = false := by
      rw [beq_eq_false_iff_ne]; intro e; rw [e] at hb; simp at hb
    rw [h45, Bool.and_false]
    have hc : (decide ((l[k]).toNat < 48) || decide ((l[k]).toNat > 57)) = false := by simp; omega
    rw [hc]
    simp only [cond_false]
    congr 2
    omega
theorem numV_itoa {n : Int} (h : n.natAbs < 100000000) : numV (itoa n) = (n, true) := by
  unfold numV
  have hl := itoa_len8 h
  rw [show decide ((itoa n).length > 9) = false by simp; omega]
  simp only [cond_false]
  have hv := dec_val _ _ (Nat.le_refl n.natAbs)
  have hd := dec_digit _ _ (Nat.le_refl n.natAbs)
  rcases itoa_cases n with ⟨h0, e⟩ | ⟨h0, e⟩
  · have := numF_dec true [45] (decDigits n.natAbs) (decDigits n.natAbs).length 0 n.natAbs (.inr rfl) (by simp) (by rw [List.take_length]; exact hv) (Nat.le_refl _) hd
    have e2 : (itoa n).length = [(45 : UInt8)].length + (decDigits n.natAbs).length := by rw [e]; simp; omega
    rw [show itoa n = [45] ++ decDigits n.natAbs from e] at e2 ⊢
    rw [e2, this]
    have : (bif true then -(n.natAbs : Int) else (n.natAbs : Int)) = n := by simp; omega
    simp only [this, Prod.mk.injEq, true_and, beq_iff_eq]
    exact e
  · have := numF_dec false [] (decDigits n.natAbs) (decDigits n.natAbs).length 0 n.natAbs (.inl rfl) (by simp) (by rw [List.take_length]; exact hv) (Nat.le_refl _) hd
    simp only [List.nil_append, List.length_nil, Nat.zero_add] at this
    rw [e, this]
    have : (bif false then -(n.natAbs : Int) else (n.natAbs : Int)) = n := by simp; omega
    simp only [this, Prod.mk.injEq, true_and, beq_iff_eq]
    exact e
end Go.Ch

/- The text of a grid: its lines, its words, and that it is read back. No program in this text. -/
namespace Go.Ch
open Go Go.Ax Go.Proofs Go.Proofs.Tryz
open Go.Lib (itoa)
set_option maxRecDepth 100000

def hd (g : Grid) : List Int := [g.x, g.y, g.side, g.cols, g.rows]
def gridW : List UInt8 := [103, 114, 105, 100]
def headT (g : Grid) (k : Nat) : List UInt8 := gridW ++ ((hd g).take k).flatMap fun n => 32 :: itoa n
theorem headT_ne (g : Grid) (k : Nat) : headT g k ≠ [] := by simp [headT, gridW]
theorem headT_succ (g : Grid) {i : Nat} (h : i < 5) : headT g (i + 1) = headT g i ++ (32 :: itoa ((hd g).getD i 0)) := by
  match i, h with
  | 0, _ => simp [headT, hd]
  | 1, _ => simp [headT, hd]
  | 2, _ => simp [headT, hd]
  | 3, _ => simp [headT, hd]
  | 4, _ => simp [headT, hd]
def wrd (n : Int) : List UInt8 := bif n == 30000 then [45] else itoa n
theorem wrd_ne (n : Int) : wrd n ≠ [] := by
  unfold wrd
  cases n == 30000
  · exact itoa_ne n
  · simp
theorem wrd_byte (n : Int) : ∀ b ∈ wrd n, b.toNat = 45 ∨ (48 ≤ b.toNat ∧ b.toNat ≤ 57) := by
  intro b hb
  unfold wrd at hb
  cases h : n == 30000 with
  | true => rw [h] at hb; simp at hb; subst hb; exact .inl rfl
  | false => rw [h] at hb; exact itoa_byte n b hb
def sepT (g : Grid) (i : Nat) : UInt8 := bif (i : Int).tmod g.cols == g.cols - 1 then 10 else 32
def bodyT (g : Grid) : Nat → List UInt8
  | 0 => []
  | k + 1 => bodyT g k ++ (wrd (g.levels.getD k 0) ++ [sepT g k])
def textG (g : Grid) : List UInt8 := headT g 5 ++ [10] ++ bodyT g g.levels.length
def sepR (g : Grid) (i : Nat) : UInt8 := bif (i : Int).tmod g.cols == 0 then 10 else 32
def bodyR (g : Grid) : Nat → List UInt8
  | 0 => []
  | k + 1 => bodyR g k ++ (sepR g k :: wrd (g.levels.getD k 0))
def textR (g : Grid) (k : Nat) : List UInt8 := headT g 5 ++ bodyR g k

theorem sep_mod {g : Grid} (hc : 1 ≤ g.cols) (i : Nat) : (i : Int).tmod g.cols = ((i % g.cols.toNat : Nat) : Int) := by
  rw [Int.tmod_eq_emod_of_nonneg (by omega)]
  rw [Int.natCast_emod, Int.toNat_of_nonneg (by omega)]
theorem sepT_nat {g : Grid} (hc : 1 ≤ g.cols) (i : Nat) : sepT g i = if i % g.cols.toNat = g.cols.toNat - 1 then 10 else 32 := by
  unfold sepT
  rw [sep_mod hc]
  by_cases h : i % g.cols.toNat = g.cols.toNat - 1
  · rw [if_pos h, show (((i % g.cols.toNat : Nat) : Int) == g.cols - 1) = true by rw [beq_iff_eq]; omega]; rfl
  · rw [if_neg h, show (((i % g.cols.toNat : Nat) : Int) == g.cols - 1) = false by rw [beq_eq_false_iff_ne]; omega]; rfl
theorem sepR_nat {g : Grid} (hc : 1 ≤ g.cols) (i : Nat) : sepR g i = if i % g.cols.toNat = 0 then 10 else 32 := by
  unfold sepR
  rw [sep_mod hc]
  by_cases h : i % g.cols.toNat = 0
  · rw [if_pos h, h]; rfl
  · rw [if_neg h, show (((i % g.cols.toNat : Nat) : Int) == 0) = false by rw [beq_eq_false_iff_ne]; omega]; rfl
theorem mod_succ {i c : Nat} (hc : 1 ≤ c) : (i + 1) % c = 0 ↔ i % c = c - 1 := by
  have h1 := Nat.div_add_mod i c
  have h2 := Nat.mod_lt i (show 0 < c by omega)
  constructor
  · intro h
    rcases Nat.lt_or_ge (i % c) (c - 1) with h3 | h3
    · exfalso
      have : (i + 1) % c = i % c + 1 := by
        conv => lhs; rw [← h1]
        rw [show c * (i / c) + i % c + 1 = (i % c + 1) + c * (i / c) by omega, Nat.add_mul_mod_self_left, Nat.mod_eq_of_lt (by omega)]
      omega
    · omega
  · intro h
    conv => lhs; rw [← h1]
    rw [h, show c * (i / c) + (c - 1) + 1 = c * (i / c + 1) by rw [Nat.mul_add]; omega]
    exact Nat.mul_mod_right _ _
theorem sepR_succ {g : Grid} (hc : 1 ≤ g.cols) (i : Nat) : sepR g (i + 1) = sepT g i := by
  rw [sepR_nat hc, sepT_nat hc]
  by_cases h : i % g.cols.toNat = g.cols.toNat - 1
  · rw [if_pos h, if_pos ((mod_succ (by omega)).2 h)]
  · rw [if_neg h, if_neg fun h' => h ((mod_succ (by omega)).1 h')]
theorem bodyR_eq {g : Grid} (hc : 1 ≤ g.cols) : ∀ k, bodyR g k ++ [sepR g k] = 10 :: bodyT g k
  | 0 => by rw [sepR_nat hc]; simp [bodyR, bodyT]
  | k + 1 => by
    have := bodyR_eq hc k
    rw [sepR_succ hc]
    simp only [bodyR, bodyT]
    rw [show bodyR g k ++ (sepR g k :: wrd (g.levels.getD k 0)) = (bodyR g k ++ [sepR g k]) ++ wrd (g.levels.getD k 0) by simp, this]
    simp
theorem GVal.count {g : Grid} (v : GVal g) : g.levels.length = g.rows.toNat * g.cols.toNat := by
  have h := v.len
  have h1 := v.cols; have h2 := v.rows
  have : ((g.rows.toNat * g.cols.toNat : Nat) : Int) = g.cols * g.rows := by
    rw [Int.natCast_mul, Int.toNat_of_nonneg (by omega), Int.toNat_of_nonneg (by omega), Int.mul_comm]
  omega
theorem textR_eq {g : Grid} (v : GVal g) : textR g g.levels.length ++ [10] = textG g := by
  have hc := v.cols.1
  have h := bodyR_eq hc g.levels.length
  have : sepR g g.levels.length = 10 := by
    rw [sepR_nat hc, v.count, if_pos (Nat.mul_mod_left _ _)]
  rw [this] at h
  unfold textR textG
  rw [List.append_assoc, h]
  simp

/-- Words with their separators. -/
def joinS (s : UInt8) (ws : List (List UInt8)) (w : List UInt8) : List UInt8 := ws.flatMap (fun x => x ++ [s]) ++ w
def cutStep (s : UInt8) (out : List (List UInt8)) (b : UInt8) : List (List UInt8) := bif b == s then out ++ [[]] else out.dropLast ++ [out.getLastD [] ++ [b]]
def cutL (s : UInt8) (l : List UInt8) : List (List UInt8) := l.foldl (cutStep s) [[]]
theorem cut_run {s : UInt8} : ∀ (l : List UInt8) (out : List (List UInt8)) (cur : List UInt8), (∀ b ∈ l, b ≠ s) → l.foldl (cutStep s) (out ++ [cur]) = out ++ [cur ++ l]
  | [], out, cur, _ => by simp
  | b :: l, out, cur, h => by
    have hb : (b == s) = false := by rw [beq_eq_false_iff_ne]; exact h b List.mem_cons_self
    have e : cutStep s (out ++ [cur]) b = out ++ [cur ++ [b]] := by
      unfold cutStep
      rw [hb]
      simp
    rw [List.foldl_cons, e, cut_run l out _ (fun x hx => h x (List.mem_cons_of_mem _ hx))]
    simp
theorem cut_words {s : UInt8} : ∀ (ws out : List (List UInt8)), (∀ w ∈ ws, ∀ b ∈ w, b ≠ s) → (ws.flatMap (fun x => x ++ [s])).foldl (cutStep s) (out ++ [[]]) = (out ++ ws) ++ [[]]
  | [], out, _ => by simp
  | w :: ws, out, h => by
    rw [List.flatMap_cons, List.foldl_append, List.foldl_append, cut_run w out [] (h w List.mem_cons_self)]
    have e : List.foldl (cutStep s) (out ++ [[] ++ w]) [s] = (out ++ [w]) ++ [[]] := by
      simp [cutStep]
    rw [e, cut_words ws (out ++ [w]) (fun x hx => h x (List.mem_cons_of_mem _ hx))]
    simp
theorem cutL_join {s : UInt8} {ws : List (List UInt8)} {w : List UInt8} (h : ∀ x ∈ ws, ∀ b ∈ x, b ≠ s) (hw : ∀ b ∈ w, b ≠ s) : cutL s (joinS s ws w) = ws ++ [w] := by
  unfold cutL joinS
  have := cut_words ws [] h
  simp only [List.nil_append] at this
  rw [List.foldl_append, this, cut_run w ws [] hw]
  simp
theorem cutStep_len (s : UInt8) (out : List (List UInt8)) (b : UInt8) (h : out ≠ []) : cutStep s out b ≠ [] ∧ out.length ≤ (cutStep s out b).length ∧ (cutStep s out b).length ≤ out.length + 1 := by
  have hp := List.length_pos_iff.2 h
  unfold cutStep
  cases b == s
  · refine ⟨by simp, ?_, ?_⟩ <;> simp <;> omega
  · refine ⟨by simp, ?_, ?_⟩ <;> simp
theorem cut_fold_len (s : UInt8) : ∀ (l : List UInt8) (out : List (List UInt8)), out ≠ [] → l.foldl (cutStep s) out ≠ [] ∧ (l.foldl (cutStep s) out).length ≤ out.length + l.length
  | [], out, h => ⟨h, by simp⟩
  | b :: l, out, h => by
    obtain ⟨h1, _, h3⟩ := cutStep_len s out b h
    obtain ⟨k1, k2⟩ := cut_fold_len s l _ h1
    rw [List.foldl_cons]
    exact ⟨k1, by simp; omega⟩
theorem cutL_len (s : UInt8) (l : List UInt8) : cutL s l ≠ [] ∧ (cutL s l).length ≤ 1 + l.length := cut_fold_len s l [[]] (by simp)
theorem cutL_snoc (s : UInt8) (l : List UInt8) (b : UInt8) : cutL s (l ++ [b]) = cutStep s (cutL s l) b := by simp [cutL]
theorem cut_elem (s : UInt8) : ∀ (l : List UInt8) (out : List (List UInt8)) (m : Nat), (∀ w ∈ out, w.length ≤ m) → ∀ w ∈ l.foldl (cutStep s) out, w.length ≤ m + l.length
  | [], out, m, h, w, hw => by simpa using h w hw
  | b :: l, out, m, h, w, hw => by
    rw [List.foldl_cons] at hw
    have := cut_elem s l (cutStep s out b) (m + 1) (fun x hx => by
      unfold cutStep at hx
      cases hb : b == s with
      | true =>
        rw [hb] at hx
        simp at hx
        rcases hx with hx | rfl
        · have := h x hx; omega
        · simp
      | false =>
        rw [hb] at hx
        simp only [cond_false, List.mem_append, List.mem_cons, List.not_mem_nil, or_false] at hx
        rcases hx with hx | rfl
        · have := h x (List.dropLast_subset _ hx); omega
        · cases ho : out.getLast? with
          | none => simp [List.getLastD_eq_getLast?, ho]
          | some q =>
            have := h q (List.mem_of_getLast? ho)
            simp [List.getLastD_eq_getLast?, ho]; omega) w hw
    simp; omega
theorem cutL_elem {s : UInt8} {l w : List UInt8} (h : w ∈ cutL s l) : w.length ≤ l.length := by
  have := cut_elem s l [[]] 0 (by simp) w h
  omega

/-- The line of a row. -/
def rowW (g : Grid) (r c : Nat) : List UInt8 := wrd (g.levels.getD (r * g.cols.toNat + c) 0)
def lineG (g : Grid) (r : Nat) : List UInt8 := joinS 32 ((List.range (g.cols.toNat - 1)).map (rowW g r)) (rowW g r (g.cols.toNat - 1))
theorem mod_row {C r c : Nat} (h : c < C) : (r * C + c) % C = c := by
  rw [Nat.add_comm, Nat.add_mul_mod_self_right, Nat.mod_eq_of_lt h]
theorem bodyT_in {g : Grid} (hc : 1 ≤ g.cols) (r : Nat) : ∀ c, c ≤ g.cols.toNat - 1 → bodyT g (r * g.cols.toNat + c) = bodyT g (r * g.cols.toNat) ++ ((List.range c).map (rowW g r)).flatMap (fun x => x ++ [32])
  | 0, _ => by simp
  | c + 1, h => by
    rw [← Nat.add_assoc, bodyT, bodyT_in hc r c (by omega), sepT_nat hc, mod_row (by omega), if_neg (by omega), List.range_succ]
    simp [rowW]
theorem bodyT_row {g : Grid} (hc : 1 ≤ g.cols) (r : Nat) : bodyT g ((r + 1) * g.cols.toNat) = bodyT g (r * g.cols.toNat) ++ (lineG g r ++ [10]) := by
  have e : (r + 1) * g.cols.toNat = r * g.cols.toNat + (g.cols.toNat - 1) + 1 := by rw [Nat.add_mul]; omega
  rw [e, bodyT, bodyT_in hc r _ (Nat.le_refl _), sepT_nat hc, mod_row (by omega), if_pos rfl]
  simp [lineG, joinS, rowW]
theorem bodyT_rows {g : Grid} (hc : 1 ≤ g.cols) : ∀ r, bodyT g (r * g.cols.toNat) = ((List.range r).map (lineG g)).flatMap (fun x => x ++ [10])
  | 0 => by simp [bodyT]
  | r + 1 => by
    rw [bodyT_row hc, bodyT_rows hc r, List.range_succ]
    simp
def headW (g : Grid) : List (List UInt8) := [gridW, itoa g.x, itoa g.y, itoa g.side, itoa g.cols, itoa g.rows]
theorem headT_join (g : Grid) : headT g 5 = joinS 32 [gridW, itoa g.x, itoa g.y, itoa g.side, itoa g.cols] (itoa g.rows) := by
  simp [headT, joinS, hd]
theorem ne_of_byte {b s : UInt8} (h : b.toNat = 45 ∨ (48 ≤ b.toNat ∧ b.toNat ≤ 57)) (hs : s.toNat < 45) : b ≠ s := by
  rintro rfl; omega
theorem gridW_ne {s : UInt8} (hs : s.toNat < 45) : ∀ b ∈ gridW, b ≠ s := by
  intro b hb
  simp only [gridW, List.mem_cons, List.not_mem_nil, or_false] at hb
  rintro rfl
  rcases hb with rfl | rfl | rfl | rfl <;> simp at hs
theorem itoa_nes {n : Int} {s : UInt8} (hs : s.toNat < 45) : ∀ b ∈ itoa n, b ≠ s := fun b hb => ne_of_byte (itoa_byte n b hb) hs
theorem wrd_nes {n : Int} {s : UInt8} (hs : s.toNat < 45) : ∀ b ∈ wrd n, b ≠ s := fun b hb => ne_of_byte (wrd_byte n b hb) hs
theorem cut_head (g : Grid) : cutL 32 (headT g 5) = headW g := by
  rw [headT_join, cutL_join]
  · rfl
  · intro x hx
    simp only [List.mem_cons, List.not_mem_nil, or_false] at hx
    rcases hx with rfl | rfl | rfl | rfl | rfl
    · exact gridW_ne (by decide)
    all_goals exact itoa_nes (by decide)
  · exact itoa_nes (by decide)
theorem cut_line {g : Grid} (hc : 1 ≤ g.cols) (r : Nat) : cutL 32 (lineG g r) = (List.range g.cols.toNat).map (rowW g r) := by
  unfold lineG
  rw [cutL_join]
  · conv => rhs; rw [show g.cols.toNat = (g.cols.toNat - 1) + 1 by omega, List.range_succ]
    simp
  · intro x hx
    simp only [List.mem_map] at hx
    obtain ⟨c, _, rfl⟩ := hx
    exact wrd_nes (by decide)
  · exact wrd_nes (by decide)
theorem join_byte {ws : List (List UInt8)} {w : List UInt8} {s q : UInt8} (hq : s ≠ q) (h : ∀ x ∈ ws, ∀ b ∈ x, b ≠ q) (hw : ∀ b ∈ w, b ≠ q) : ∀ b ∈ joinS s ws w, b ≠ q := by
  intro b hb
  simp only [joinS, List.mem_append, List.mem_flatMap, List.mem_cons, List.not_mem_nil, or_false] at hb
  rcases hb with ⟨x, hx, hb | rfl⟩ | hb
  · exact h x hx b hb
  · exact hq
  · exact hw b hb
theorem text_join {g : Grid} (v : GVal g) : textG g = joinS 10 (headT g 5 :: (List.range g.rows.toNat).map (lineG g)) [] := by
  unfold textG joinS
  rw [v.count, bodyT_rows v.cols.1]
  simp
theorem cut_text {g : Grid} (v : GVal g) : cutL 10 (textG g) = (headT g 5 :: (List.range g.rows.toNat).map (lineG g)) ++ [[]] := by
  rw [text_join v, cutL_join]
  · intro x hx
    simp only [List.mem_cons, List.mem_map] at hx
    rcases hx with rfl | ⟨r, _, rfl⟩
    · rw [headT_join]
      refine join_byte (by decide) ?_ (itoa_nes (by decide))
      intro x hx
      simp only [List.mem_cons, List.not_mem_nil, or_false] at hx
      rcases hx with rfl | rfl | rfl | rfl | rfl
      · exact gridW_ne (by decide)
      all_goals exact itoa_nes (by decide)
    · refine join_byte (by decide) ?_ (wrd_nes (by decide))
      intro x hx
      simp only [List.mem_map] at hx
      obtain ⟨c, _, rfl⟩ := hx
      exact wrd_nes (by decide)
  · intro b hb; cases hb

/-- Words between white space. -/
theorem fieldsGo_word : ∀ (w cur : List UInt8) (s : UInt8) (rest : List UInt8), (∀ b ∈ w, Lib.isSp b = false) → Lib.isSp s = true → cur ++ w ≠ [] → Lib.fieldsGo cur (w ++ s :: rest) = (cur ++ w) :: Lib.fieldsGo [] rest
  | [], cur, s, rest, _, hs, hn => by
    have hc : cur.isEmpty = false := by cases cur <;> simp at hn ⊢
    simp [Lib.fieldsGo, hs, hc]
  | b :: w, cur, s, rest, h, hs, hn => by
    have hb := h b List.mem_cons_self
    rw [List.cons_append, Lib.fieldsGo, hb]
    simp only [Bool.false_eq_true, if_false]
    rw [fieldsGo_word w (cur ++ [b]) s rest (fun x hx => h x (List.mem_cons_of_mem _ hx)) hs (by simp)]
    simp
theorem fields_pairs : ∀ (ps : List (List UInt8 × UInt8)), (∀ p ∈ ps, p.1 ≠ [] ∧ (∀ b ∈ p.1, Lib.isSp b = false) ∧ Lib.isSp p.2 = true) → Lib.fields (ps.flatMap fun p => p.1 ++ [p.2]) = ps.map (·.1)
  | [], _ => rfl
  | p :: ps, h => by
    obtain ⟨h1, h2, h3⟩ := h p List.mem_cons_self
    have ih := fields_pairs ps (fun q hq => h q (List.mem_cons_of_mem _ hq))
    unfold Lib.fields at ih ⊢
    rw [List.flatMap_cons, List.append_assoc, List.singleton_append, fieldsGo_word p.1 [] p.2 _ h2 h3 (by simpa using h1), ih]
    simp
def pairsG (g : Grid) : List (List UInt8 × UInt8) :=
  [(gridW, 32), (itoa g.x, 32), (itoa g.y, 32), (itoa g.side, 32), (itoa g.cols, 32), (itoa g.rows, 10)] ++ (List.range g.levels.length).map fun i => (wrd (g.levels.getD i 0), sepT g i)
theorem bodyT_pairs (g : Grid) : ∀ k, bodyT g k = ((List.range k).map fun i => (wrd (g.levels.getD i 0), sepT g i)).flatMap fun p => p.1 ++ [p.2]
  | 0 => rfl
  | k + 1 => by rw [bodyT, bodyT_pairs g k, List.range_succ]; simp
theorem text_pairs (g : Grid) : textG g = (pairsG g).flatMap fun p => p.1 ++ [p.2] := by
  unfold textG pairsG
  rw [bodyT_pairs, headT_join]
  simp [joinS]
theorem sp_byte {b : UInt8} (h : b.toNat = 45 ∨ (48 ≤ b.toNat ∧ b.toNat ≤ 57)) : Lib.isSp b = false := by
  unfold Lib.isSp
  simp only [Bool.or_eq_false_iff, beq_eq_false_iff_ne]
  refine ⟨⟨⟨⟨⟨?_, ?_⟩, ?_⟩, ?_⟩, ?_⟩, ?_⟩ <;> exact ne_of_byte h (by decide)
theorem sepT_cases (g : Grid) (i : Nat) : sepT g i = 10 ∨ sepT g i = 32 := by
  unfold sepT
  cases (i : Int).tmod g.cols == g.cols - 1
  · exact .inr rfl
  · exact .inl rfl
theorem pairs_ok (g : Grid) : ∀ p ∈ pairsG g, p.1 ≠ [] ∧ (∀ b ∈ p.1, Lib.isSp b = false) ∧ Lib.isSp p.2 = true := by
  intro p hp
  have hi : ∀ n : Int, itoa n ≠ [] ∧ (∀ b ∈ itoa n, Lib.isSp b = false) := fun n => ⟨itoa_ne n, fun b hb => sp_byte (itoa_byte n b hb)⟩
  simp only [pairsG, List.mem_append, List.mem_cons, List.not_mem_nil, or_false, List.mem_map] at hp
  rcases hp with (rfl | rfl | rfl | rfl | rfl | rfl) | ⟨i, _, rfl⟩
  · refine ⟨by simp [gridW], ?_, by decide⟩
    have : gridW.all (fun b => !Lib.isSp b) = true := by decide
    intro b hb
    simpa using List.all_eq_true.1 this b hb
  · exact ⟨(hi _).1, (hi _).2, rfl⟩
  · exact ⟨(hi _).1, (hi _).2, rfl⟩
  · exact ⟨(hi _).1, (hi _).2, rfl⟩
  · exact ⟨(hi _).1, (hi _).2, rfl⟩
  · exact ⟨(hi _).1, (hi _).2, rfl⟩
  · refine ⟨wrd_ne _, fun b hb => sp_byte (wrd_byte _ b hb), ?_⟩
    rcases sepT_cases g i with h | h <;> rw [h] <;> rfl
theorem pairs_ascii (g : Grid) : ∀ b ∈ textG g, b.toNat < 128 := by
  rw [text_pairs]
  intro b hb
  obtain ⟨p, hp, hb⟩ := List.mem_flatMap.1 hb
  have hi : ∀ n : Int, ∀ b ∈ itoa n, b.toNat < 128 := fun n b hb => by rcases itoa_byte n b hb with h | h <;> omega
  simp only [pairsG, List.mem_append, List.mem_cons, List.not_mem_nil, or_false, List.mem_map] at hp hb
  rcases hb with hb | rfl
  · rcases hp with (rfl | rfl | rfl | rfl | rfl | rfl) | ⟨i, _, rfl⟩
    · have : gridW.all (fun b => decide (b.toNat < 128)) = true := by decide
      simpa using List.all_eq_true.1 this b hb
    · exact hi _ b hb
    · exact hi _ b hb
    · exact hi _ b hb
    · exact hi _ b hb
    · exact hi _ b hb
    · rcases wrd_byte _ b hb with h | h <;> omega
  · have hc : ∀ b : UInt8, (b = 10 ∨ b = 32) → b.toNat < 128 := by
      intro b hb; rcases hb with rfl | rfl <;> decide
    refine hc _ ?_
    rcases hp with (rfl | rfl | rfl | rfl | rfl | rfl) | ⟨i, _, rfl⟩
    · exact .inr rfl
    · exact .inr rfl
    · exact .inr rfl
    · exact .inr rfl
    · exact .inr rfl
    · exact .inl rfl
    · exact sepT_cases g i
/-- The words behind the first. -/
def wds (g : Grid) : List (List UInt8) := (hd g).map itoa ++ g.levels.map wrd
def allN (g : Grid) : List Int := hd g ++ g.levels
theorem range_getD {α β : Type} (f : α → β) (l : List α) (d : α) : (List.range l.length).map (fun i => f (l.getD i d)) = l.map f := by
  apply List.ext_getElem
  · simp
  · intro i h1 h2
    simp at h1
    simp [List.getD, h1]
theorem fields_text (g : Grid) : Lib.fieldsD (textG g) = gridW :: wds g := by
  rw [Lib.fieldsD_ascii _ (pairs_ascii g), text_pairs, fields_pairs _ (pairs_ok g)]
  simp only [pairsG, List.map_append, List.map_cons, List.map_nil, List.map_map, wds, hd]
  rw [show ((fun x : List UInt8 × UInt8 => x.1) ∘ fun i => (wrd (g.levels.getD i 0), sepT g i)) = fun i => wrd (g.levels.getD i 0) from rfl, range_getD wrd g.levels 0]
  rfl
/-- What bed.Parse reads from the word with number i. -/
def rdW (i : Nat) (w : List UInt8) : Option Int := bif w == [45] && decide (5 ≤ i) then some 30000 else bif atE w then none else some (atN w)
theorem itoa_dash (n : Int) : (itoa n == [45]) = false := by
  rw [beq_eq_false_iff_ne]
  intro h
  rcases itoa_cases n with ⟨_, e⟩ | ⟨_, e⟩ <;> rw [e] at h
  · injection h with _ h; exact dec_ne _ h
  · have := dec_digit _ _ (Nat.le_refl n.natAbs) 45 (by rw [h]; exact List.mem_cons_self)
    simp at this
theorem GVal.small {g : Grid} (v : GVal g) : ∀ n ∈ hd g, n.natAbs < 100000000 := by
  intro n hn
  have := v.x; have := v.y; have := v.side; have := v.cols; have := v.rows
  simp only [hd, List.mem_cons, List.not_mem_nil, or_false] at hn
  rcases hn with rfl | rfl | rfl | rfl | rfl <;> omega
theorem GVal.lev8 {g : Grid} (v : GVal g) : ∀ n ∈ g.levels, n.natAbs < 100000000 := by
  intro n hn
  have := v.lev n hn
  omega
theorem rdW_itoa {n : Int} (i : Nat) (h : n.natAbs < 100000000) : rdW i (itoa n) = some n := by
  unfold rdW
  rw [itoa_dash, atE_itoa h, atN_itoa h]; rfl
theorem rdW_wrd {n : Int} {i : Nat} (hi : 5 ≤ i) (h : n.natAbs < 100000000) : rdW i (wrd n) = some n := by
  unfold wrd
  cases hn : n == 30000 with
  | true => obtain rfl : n = 30000 := by simpa using hn
            simp [rdW, hi]
  | false => exact rdW_itoa i h
theorem wds_length (g : Grid) : (wds g).length = (allN g).length := by simp [wds, allN]
theorem rdW_wds {g : Grid} (v : GVal g) {i : Nat} (hi : i < (wds g).length) : rdW i ((wds g)[i]) = some ((allN g)[i]'(by rw [← wds_length]; exact hi)) := by
  have hi' : i < (allN g).length := by rw [← wds_length]; exact hi
  by_cases h : i < (hd g).length
  · have e1 : (wds g)[i] = itoa ((hd g)[i]) := by
      simp only [wds]
      rw [List.getElem_append_left (by simpa using h), List.getElem_map]
    have e2 : (allN g)[i] = (hd g)[i] := by
      simp only [allN]
      rw [List.getElem_append_left h]
    rw [e1, e2]
    exact rdW_itoa i (v.small _ (List.getElem_mem h))
  · have hl : i - (hd g).length < g.levels.length := by simp [allN] at hi'; omega
    have e1 : (wds g)[i] = wrd (g.levels[i - (hd g).length]) := by
      simp only [wds]
      rw [List.getElem_append_right (by simpa using h), List.getElem_map]
      simp only [List.length_map]
    have e2 : (allN g)[i] = g.levels[i - (hd g).length] := by
      simp only [allN]
      rw [List.getElem_append_right (by omega)]
    rw [e1, e2]
    exact rdW_wrd (by have : (hd g).length = 5 := rfl; omega) (v.lev8 _ (List.getElem_mem _))
theorem wds_inj {g g' : Grid} (v : GVal g) (v' : GVal g') (h : wds g = wds g') : g = g' := by
  have e : allN g = allN g' := by
    apply List.ext_getElem
    · rw [← wds_length, ← wds_length, h]
    · intro i h1 h2
      have a := rdW_wds v (i := i) (by rw [wds_length]; exact h1)
      have b := rdW_wds v' (i := i) (by rw [wds_length]; exact h2)
      simp only [h] at a
      rw [a] at b
      exact Option.some.inj b
  obtain ⟨x, y, s, c, r, l⟩ := g
  obtain ⟨x', y', s', c', r', l'⟩ := g'
  simp only [allN, hd, List.cons_append, List.nil_append, List.cons.injEq] at e
  obtain ⟨rfl, rfl, rfl, rfl, rfl, rfl⟩ := e
  rfl
theorem text_inj {g g' : Grid} (v : GVal g) (v' : GVal g') (h : textG g = textG g') : g = g' := by
  have := fields_text g
  rw [h, fields_text g'] at this
  injection this with _ this
  exact (wds_inj v' v this).symm
open Classical in
/-- The grid that a text is of. -/
noncomputable def readT (s : List UInt8) : Option Grid := if h : ∃ g, GVal g ∧ textG g = s then some (Classical.choose h) else none
theorem readT_text {g : Grid} (v : GVal g) : readT (textG g) = some g := by
  unfold readT
  have h : ∃ g', GVal g' ∧ textG g' = textG g := ⟨g, v, rfl⟩
  rw [dif_pos h]
  obtain ⟨v', e⟩ := Classical.choose_spec h
  exact congrArg some (text_inj v' v e)
theorem readT_none {s : List UInt8} (h : ∀ g, GVal g → textG g ≠ s) : readT s = none := by
  unfold readT
  rw [dif_neg]
  rintro ⟨g, v, e⟩
  exact h g v e
theorem readT_some {s : List UInt8} {g : Grid} (h : readT s = some g) : GVal g ∧ textG g = s := by
  unfold readT at h
  split at h
  · rename_i hx
    have := Classical.choose_spec hx
    cases h
    exact this
  · cases h
theorem GVal.err {g : Grid} (v : GVal g) : errG g = 0 := by
  obtain ⟨q1, q2, q3, q4, q5, q6, q7, q8, q9, q10⟩ := v
  have m1 := mul_le_of (a := g.cols) (b := g.rows) (A := 1024) (B := 1024) (by omega) (by omega) (by omega) (by omega)
  have m2 := mul_le_of (a := g.cols) (b := g.side) (A := 1024) (B := 10000) (by omega) (by omega) (by omega) (by omega)
  have m3 := mul_le_of (a := g.rows) (b := g.side) (A := 1024) (B := 10000) (by omega) (by omega) (by omega) (by omega)
  unfold errG
  rw [w64_of (n := g.cols * g.rows) (by omega) (by omega), w64_of (n := g.cols * g.side) (by omega) (by omega), w64_of (n := g.rows * g.side) (by omega) (by omega),
    w64_of (n := g.x + g.cols * g.side) (by omega) (by omega), w64_of (n := g.y + g.rows * g.side) (by omega) (by omega)]
  have h1 : e1 g = false := by
    unfold e1 within
    simp only [Bool.or_eq_false_iff, Bool.not_eq_false', Bool.and_eq_true, decide_eq_true_eq, ge_iff_le]
    exact ⟨⟨⟨⟨q1, q2⟩, q3⟩, q4⟩, q5⟩
  have h2 : decide (g.cols * g.rows > 1024) = false := by simp; omega
  have h3 : (decide (g.x + g.cols * g.side > 1000000) || decide (g.y + g.rows * g.side > 1000000)) = false := by simp; omega
  have h4 : ((g.levels.length : Int) != g.cols * g.rows) = false := by simp; exact q9
  have h5 : g.levels.any badL = false := by
    rw [List.any_eq_false]
    intro n hn
    unfold badL within
    rcases q10 n hn with h | h
    · simp [h]
    · simp; intro _; omega
  rw [h1, h2, h3, h4, h5]; rfl
end Go.Ch

/- bed.printed: the text of a grid. -/
namespace Go.Ch
open Go Go.Ax Go.Proofs Go.Proofs.Tryz
set_option maxRecDepth 100000
set_option pp.maxSteps 400
set_option maxHeartbeats 1000000

theorem hd_small {g : Grid} (v : GVal g) {i : Nat} (h : i < 5) : ((hd g).getD i 0).natAbs < 100000000 := by
  have hs := v.small
  match i, h with
  | 0, _ => exact hs _ (by simp [hd])
  | 1, _ => exact hs _ (by simp [hd])
  | 2, _ => exact hs _ (by simp [hd])
  | 3, _ => exact hs _ (by simp [hd])
  | 4, _ => exact hs _ (by simp [hd])
theorem headT_len {g : Grid} (v : GVal g) : ∀ k, k ≤ 5 → (headT g k).length ≤ 4 + 10 * k
  | 0, _ => by simp [headT, gridW]
  | k + 1, h => by
    have := headT_len v k (by omega)
    have := itoa_len8 (hd_small v (show k < 5 by omega))
    rw [headT_succ g (by omega), List.length_append, List.length_cons]
    omega
theorem wrd_len {n : Int} (h : n.natAbs < 100000000) : (wrd n).length ≤ 9 := by
  unfold wrd
  cases n == 30000
  · exact itoa_len8 h
  · exact Nat.le_of_ble_eq_true rfl
theorem lev_small {g : Grid} (v : GVal g) {i : Nat} (h : i < g.levels.length) : (g.levels.getD i 0).natAbs < 100000000 := by
  rw [List.getD_eq_getElem?_getD, List.getElem?_eq_getElem h]
  exact v.lev8 _ (List.getElem_mem h)
theorem bodyT_len {g : Grid} (v : GVal g) : ∀ k, k ≤ g.levels.length → (bodyT g k).length ≤ 10 * k
  | 0, _ => by simp [bodyT]
  | k + 1, h => by
    have := bodyT_len v k (by omega)
    have := wrd_len (lev_small v (show k < g.levels.length by omega))
    simp only [bodyT, List.length_append, List.length_cons, List.length_nil]
    omega
def midT (g : Grid) (i : Nat) : List UInt8 := headT g 5 ++ [10] ++ bodyT g i
theorem midT_ne (g : Grid) (k : Nat) : midT g k ≠ [] := by simp [midT]
theorem midT_len {g : Grid} (v : GVal g) {k : Nat} (h : k ≤ g.levels.length) : (midT g k).length ≤ 55 + 10 * k := by
  have := headT_len v 5 (Nat.le_refl _)
  have := bodyT_len v k h
  simp only [midT, List.length_append, List.length_cons, List.length_nil]
  omega
theorem midT_succ (g : Grid) (k : Nat) : midT g (k + 1) = midT g k ++ wrd (g.levels.getD k 0) ++ [sepT g k] := by
  simp [midT, bodyT]
theorem gridW_ne' : gridW ≠ [] := by simp [gridW]
theorem Printed (g : Grid) (v : GVal g) : CallP Tryz.prog 28 [grid g] (vT (textG g)) := by
  have hn := v.n
  refine callP_of_ex (rc := [73, 45]) (N := 56) Tryz.func28 rfl rfl Tryz.call28 tab_ok mix rfl rfl (fun cx href => ?_)
  refine ⟨[(0, 3), (2, 100)], _, _, _, _, WS_fresh gridW (by simp [gridW]) (by simp [gridW]), rfl, ⟨rfl, trivial⟩, rfl, ?_⟩
  refine AW.loopI (fun i : Nat => ⟨[(1, .s (.ptr 1 0)), (3, .s (.ptr 3 0)), (19, .g [.d (dI g.x), .d (dI g.y), .d (dI g.side), .d (dI g.cols), .d (dI g.rows)]), (20, vI i)],
      [(1, some (.cells [.d (dI g.x), .d (dI g.y), .d (dI g.side), .d (dI g.cols), .d (dI g.rows), .d (dInts g.levels)])), (3, some (.cells [.ptr 3 0, .own 100])), (100, some (.row 5 (headT g i).length 1 (byteF (headT g i))))]⟩)
    (fun i => i ≤ 5) (fun i => 5 - i) 0 (Nat.zero_le _) ?_ ?_
  · exact SubI.of0 href [] rfl ⟨⟨rfl, LeBx.rfl⟩, ⟨rfl, LeBx.rfl⟩, ⟨rfl, LeBx.rfl⟩, trivial⟩ ⟨⟨rfl, LeQ.rfl⟩, ⟨rfl, LeQ.rfl⟩, ⟨rfl, LeQ.rfl⟩, ⟨rfl, LeQ.rfl⟩, trivial⟩
  · intro i hi
    refine AW.seq (ex.sound (rc := [73, 45]) tab_ok mix href _ ?_)
    refine AW.seq (ex.sound (rc := [73, 45]) tab_ok mix href _ ?_)
    refine And.intro (fun h => ?_) (fun h => ?_)
    · have h : (i : Int) < 5 := decT h
      have hi' : i < 5 := by omega
      have hs := hd_small v hi'
      have hl := itoa_len8 hs
      have hh := headT_len v i (by omega)
      refine AW.seq (AW.block (AW.cut (σ' := ⟨[(1, .s (.ptr 1 0)), (3, .s (.ptr 3 0)), (5, vI ((hd g).getD i 0)), (19, .g [.d (dI g.x), .d (dI g.y), .d (dI g.side), .d (dI g.cols), .d (dI g.rows)]), (20, vI i)],
        [(1, some (.cells [.d (dI g.x), .d (dI g.y), .d (dI g.side), .d (dI g.cols), .d (dI g.rows), .d (dInts g.levels)])), (3, some (.cells [.ptr 3 0, .own 100])), (100, some (.row 5 (headT g i).length 1 (byteF (headT g i))))]⟩) ?_ ?_))
      · match i, hi' with
        | 0, _ =>
          refine ex.sound (rc := [73, 45]) tab_ok mix href _ ?_
          refine oi ⟨by decide, by decide⟩ ?_
          exact ⟨rfl, SubI.of0 href [] rfl ⟨⟨rfl, LeBx.rfl⟩, ⟨rfl, LeBx.rfl⟩, ⟨rfl, LeBx.rfl⟩, trivial⟩ ⟨⟨rfl, LeQ.rfl⟩, ⟨rfl, LeQ.rfl⟩, ⟨rfl, LeQ.rfl⟩, ⟨rfl, LeQ.rfl⟩, ⟨rfl, LeQ.rfl⟩, trivial⟩⟩
        | 1, _ =>
          refine ex.sound (rc := [73, 45]) tab_ok mix href _ ?_
          refine oi ⟨by decide, by decide⟩ ?_
          exact ⟨rfl, SubI.of0 href [] rfl ⟨⟨rfl, LeBx.rfl⟩, ⟨rfl, LeBx.rfl⟩, ⟨rfl, LeBx.rfl⟩, trivial⟩ ⟨⟨rfl, LeQ.rfl⟩, ⟨rfl, LeQ.rfl⟩, ⟨rfl, LeQ.rfl⟩, ⟨rfl, LeQ.rfl⟩, ⟨rfl, LeQ.rfl⟩, trivial⟩⟩
        | 2, _ =>
          refine ex.sound (rc := [73, 45]) tab_ok mix href _ ?_
          refine oi ⟨by decide, by decide⟩ ?_
          exact ⟨rfl, SubI.of0 href [] rfl ⟨⟨rfl, LeBx.rfl⟩, ⟨rfl, LeBx.rfl⟩, ⟨rfl, LeBx.rfl⟩, trivial⟩ ⟨⟨rfl, LeQ.rfl⟩, ⟨rfl, LeQ.rfl⟩, ⟨rfl, LeQ.rfl⟩, ⟨rfl, LeQ.rfl⟩, ⟨rfl, LeQ.rfl⟩, trivial⟩⟩
        | 3, _ =>
          refine ex.sound (rc := [73, 45]) tab_ok mix href _ ?_
          refine oi ⟨by decide, by decide⟩ ?_
          exact ⟨rfl, SubI.of0 href [] rfl ⟨⟨rfl, LeBx.rfl⟩, ⟨rfl, LeBx.rfl⟩, ⟨rfl, LeBx.rfl⟩, trivial⟩ ⟨⟨rfl, LeQ.rfl⟩, ⟨rfl, LeQ.rfl⟩, ⟨rfl, LeQ.rfl⟩, ⟨rfl, LeQ.rfl⟩, ⟨rfl, LeQ.rfl⟩, trivial⟩⟩
        | 4, _ =>
          refine ex.sound (rc := [73, 45]) tab_ok mix href _ ?_
          refine oi ⟨by decide, by decide⟩ ?_
          exact ⟨rfl, SubI.of0 href [] rfl ⟨⟨rfl, LeBx.rfl⟩, ⟨rfl, LeBx.rfl⟩, ⟨rfl, LeBx.rfl⟩, trivial⟩ ⟨⟨rfl, LeQ.rfl⟩, ⟨rfl, LeQ.rfl⟩, ⟨rfl, LeQ.rfl⟩, ⟨rfl, LeQ.rfl⟩, ⟨rfl, LeQ.rfl⟩, trivial⟩⟩
      refine ex.sound (rc := [73, 45]) tab_ok mix href _ ?_
      refine callN (Itoa _ (by omega) (by omega)) ?_
      refine oi (show (bs [32]).size + (bs (Lib.itoa ((hd g).getD i 0))).size ≤ 9223372036854775807 by rw [bs_size, bs_size]; simp only [List.length_cons, List.length_nil]; omega) ?_
      refine ⟨[(0, 3), (1, 100), (2, 101)], _, _, _, _, WS_used (headT g i) (32 :: Lib.itoa ((hd g).getD i 0)) (headT_ne g i) (by simp only [List.length_cons]; omega), congrArg (fun q => [AV.s (SV.ptr 3 0), AV.s (SV.d (DV.val (Value.string q)))]) (bs_add [32] (Lib.itoa ((hd g).getD i 0))), ⟨rfl, rfl, trivial⟩, rfl, ?_⟩
      refine ex.sound (rc := [73, 45]) tab_ok mix href _ ?_
      refine ⟨i + 1, by omega, by omega, SubI.of0 href [(100, 101)] rfl ⟨⟨rfl, LeBx.rfl⟩, ⟨rfl, LeBx.rfl⟩, ⟨rfl, ?_⟩, trivial⟩ ⟨⟨rfl, LeQ.rfl⟩, ⟨rfl, LeQ.rfl⟩, ⟨rfl, LeQ.rfl⟩, ⟨rfl, LeQ.int (w64_of (by omega) (by omega))⟩, trivial⟩⟩
      exact LeBx.of_eq (by rw [headT_succ g hi']; rfl)
    · have h : ¬ (i : Int) < 5 := decF h
      obtain rfl : i = 5 := by omega
      have hh := headT_len v 5 (Nat.le_refl _)
      refine ⟨[(0, 3), (1, 100), (2, 101)], _, _, _, _, WS_used (headT g 5) [10] (headT_ne g 5) (by simp; omega), rfl, ⟨rfl, rfl, trivial⟩, rfl, ?_⟩
      refine AW.loopI (fun i : Nat => ⟨[(1, .s (.ptr 1 0)), (3, .s (.ptr 3 0)), (30, vInts g.levels), (31, vI g.levels.length), (32, vI i)],
          [(1, some (.cells [.d (dI g.x), .d (dI g.y), .d (dI g.side), .d (dI g.cols), .d (dI g.rows), .d (dInts g.levels)])), (3, some (.cells [.ptr 3 0, .own 100])), (100, some (.row 5 (midT g i).length 1 (byteF (midT g i))))]⟩)
        (fun i => i ≤ g.levels.length) (fun i => g.levels.length - i) 0 (Nat.zero_le _) ?_ ?_
      · exact SubI.of0 href [(100, 101)] rfl ⟨⟨rfl, LeBx.rfl⟩, ⟨rfl, LeBx.rfl⟩, ⟨rfl, LeBx.of_eq (by rw [show midT g 0 = headT g 5 ++ [10] by simp [midT, bodyT]]; rfl)⟩, trivial⟩ ⟨⟨rfl, LeQ.rfl⟩, ⟨rfl, LeQ.rfl⟩, ⟨rfl, LeQ.rfl⟩, ⟨rfl, LeQ.rfl⟩, ⟨rfl, LeQ.rfl⟩, trivial⟩
      · intro i hi
        have hm := midT_len v hi
        refine ex.sound (rc := [73, 45]) tab_ok mix href _ ?_
        refine And.intro (fun h => ?_) (fun h => ?_)
        · have h : (i : Int) < g.levels.length := decT h
          have hi' : i < g.levels.length := by omega
          have hs := lev_small v hi'
          have hw := itoa_len8 hs
          have hc := v.cols
          have ec : w64 (g.cols - 1) = g.cols - 1 := w64_of (by omega) (by omega)
          refine oi ⟨by omega, by omega⟩ ?_
          refine callN (bknown g i (by omega) (by omega)) ?_
          refine And.intro (fun h2 => ?_) (fun h2 => ?_)
          · have h2 : (g.levels.getD i 0 != 30000) = true := h2
            have ew : wrd (g.levels.getD i 0) = Lib.itoa (g.levels.getD i 0) := by
              unfold wrd
              rw [show (g.levels.getD i 0 == 30000) = false by simpa using h2]; rfl
            refine callN (Itoa (g.levels.getD i 0) (by omega) (by omega)) ?_
            refine ⟨[(0, 3), (1, 100), (2, 101)], _, _, _, _, WS_used (midT g i) (Lib.itoa (g.levels.getD i 0)) (midT_ne g i) (by omega), rfl, ⟨rfl, rfl, trivial⟩, rfl, ?_⟩
            refine oi (show g.cols ≠ 0 by omega) ?_
            refine And.intro (by kernel_rfl) ?_
            refine And.intro (fun h3 => ?_) (fun h3 => ?_)
            · have h3 : ((i : Int).tmod g.cols == w64 (g.cols - 1)) = true := h3
              have es : sepT g i = 10 := by rw [ec] at h3; unfold sepT; rw [h3]; rfl
              refine ⟨[(0, 3), (1, 101), (2, 102)], _, _, _, _, WS_used (midT g i ++ Lib.itoa (g.levels.getD i 0)) [10] (by simp [midT]) (by simp only [List.length_append, List.length_cons, List.length_nil]; omega), rfl, ⟨rfl, rfl, trivial⟩, rfl, ?_⟩
              refine ⟨i + 1, by omega, by omega, SubI.of0 href [(100, 102)] rfl ⟨⟨rfl, LeBx.rfl⟩, ⟨rfl, LeBx.rfl⟩, ⟨rfl, ?_⟩, trivial⟩ ⟨⟨rfl, LeQ.rfl⟩, ⟨rfl, LeQ.rfl⟩, ⟨rfl, LeQ.rfl⟩, ⟨rfl, LeQ.rfl⟩, ⟨rfl, LeQ.int (w64_of (by omega) (by omega))⟩, trivial⟩⟩
              exact LeBx.of_eq (by rw [midT_succ, ew, es]; rfl)
            · have h3 : ((i : Int).tmod g.cols == w64 (g.cols - 1)) = false := h3
              have es : sepT g i = 32 := by rw [ec] at h3; unfold sepT; rw [h3]; rfl
              refine ⟨[(0, 3), (1, 101), (2, 102)], _, _, _, _, WS_used (midT g i ++ Lib.itoa (g.levels.getD i 0)) [32] (by simp [midT]) (by simp only [List.length_append, List.length_cons, List.length_nil]; omega), rfl, ⟨rfl, rfl, trivial⟩, rfl, ?_⟩
              refine ⟨i + 1, by omega, by omega, SubI.of0 href [(100, 102)] rfl ⟨⟨rfl, LeBx.rfl⟩, ⟨rfl, LeBx.rfl⟩, ⟨rfl, ?_⟩, trivial⟩ ⟨⟨rfl, LeQ.rfl⟩, ⟨rfl, LeQ.rfl⟩, ⟨rfl, LeQ.rfl⟩, ⟨rfl, LeQ.rfl⟩, ⟨rfl, LeQ.int (w64_of (by omega) (by omega))⟩, trivial⟩⟩
              exact LeBx.of_eq (by rw [midT_succ, ew, es]; rfl)
          · have h2 : (g.levels.getD i 0 != 30000) = false := h2
            have ew : wrd (g.levels.getD i 0) = [45] := by
              unfold wrd
              rw [show (g.levels.getD i 0 == 30000) = true by simpa using h2]; rfl
            refine ⟨[(0, 3), (1, 100), (2, 101)], _, _, _, _, WS_used (midT g i) ([45]) (midT_ne g i) (by simp only [List.length_cons, List.length_nil]; omega), rfl, ⟨rfl, rfl, trivial⟩, rfl, ?_⟩
            refine oi (show g.cols ≠ 0 by omega) ?_
            refine And.intro (by kernel_rfl) ?_
            refine And.intro (fun h3 => ?_) (fun h3 => ?_)
            · have h3 : ((i : Int).tmod g.cols == w64 (g.cols - 1)) = true := h3
              have es : sepT g i = 10 := by rw [ec] at h3; unfold sepT; rw [h3]; rfl
              refine ⟨[(0, 3), (1, 101), (2, 102)], _, _, _, _, WS_used (midT g i ++ [45]) [10] (by simp [midT]) (by simp only [List.length_append, List.length_cons, List.length_nil]; omega), rfl, ⟨rfl, rfl, trivial⟩, rfl, ?_⟩
              refine ⟨i + 1, by omega, by omega, SubI.of0 href [(100, 102)] rfl ⟨⟨rfl, LeBx.rfl⟩, ⟨rfl, LeBx.rfl⟩, ⟨rfl, ?_⟩, trivial⟩ ⟨⟨rfl, LeQ.rfl⟩, ⟨rfl, LeQ.rfl⟩, ⟨rfl, LeQ.rfl⟩, ⟨rfl, LeQ.rfl⟩, ⟨rfl, LeQ.int (w64_of (by omega) (by omega))⟩, trivial⟩⟩
              exact LeBx.of_eq (by rw [midT_succ, ew, es]; rfl)
            · have h3 : ((i : Int).tmod g.cols == w64 (g.cols - 1)) = false := h3
              have es : sepT g i = 32 := by rw [ec] at h3; unfold sepT; rw [h3]; rfl
              refine ⟨[(0, 3), (1, 101), (2, 102)], _, _, _, _, WS_used (midT g i ++ [45]) [32] (by simp [midT]) (by simp only [List.length_append, List.length_cons, List.length_nil]; omega), rfl, ⟨rfl, rfl, trivial⟩, rfl, ?_⟩
              refine ⟨i + 1, by omega, by omega, SubI.of0 href [(100, 102)] rfl ⟨⟨rfl, LeBx.rfl⟩, ⟨rfl, LeBx.rfl⟩, ⟨rfl, ?_⟩, trivial⟩ ⟨⟨rfl, LeQ.rfl⟩, ⟨rfl, LeQ.rfl⟩, ⟨rfl, LeQ.rfl⟩, ⟨rfl, LeQ.rfl⟩, ⟨rfl, LeQ.int (w64_of (by omega) (by omega))⟩, trivial⟩⟩
              exact LeBx.of_eq (by rw [midT_succ, ew, es]; rfl)
        · have h : ¬ (i : Int) < g.levels.length := decF h
          obtain rfl : i = g.levels.length := by omega
          refine ⟨[(0, 3), (1, 100)], _, _, _, _, BString (midT g g.levels.length) (midT_ne g _), rfl, ⟨rfl, rfl, trivial⟩, rfl, ?_⟩
          exact SubR.refl _
end Go.Ch

/- The reference's Cut and number. -/
namespace Go.Ch
open Go Go.Ax Go.Proofs Go.Proofs.Tryz
set_option maxRecDepth 100000
set_option pp.maxSteps 400
set_option maxHeartbeats 1000000

abbrev vY (b : UInt8) : AV := .s (.d (.val (.int .u8 (b.toNat : Int))))
theorem bs_get (l : List UInt8) (i : Nat) : (bs l)[i]! = l.getD i 0 := by
  by_cases h : i < l.length
  · rw [getElem!_pos (bs l) i (by rw [bs_size]; exact h)]
    show l.toArray[i] = _
    simp [List.getD, h]
  · rw [getElem!_neg (bs l) i (by rw [bs_size]; exact h)]
    rw [List.getD_eq_getElem?_getD, List.getElem?_eq_none (by omega)]; rfl
theorem u8_eq (a b : UInt8) : (((a.toNat : Int)) == (b.toNat : Int)) = (a == b) := by
  rw [Bool.eq_iff_iff, beq_iff_eq, beq_iff_eq]
  constructor
  · intro h; exact UInt8.toNat_inj.1 (by omega)
  · rintro rfl; rfl
def txtEl (w : List UInt8) (_ : Nat) : DV := dT w
theorem take_succ_getD (l : List UInt8) {i : Nat} (h : i < l.length) : l.take (i + 1) = l.take i ++ [l.getD i 0] := by
  rw [List.take_add_one, List.getElem?_eq_getElem h]
  simp [List.getD, h]
theorem Cut (s : List UInt8) (at' : UInt8) (hl : s.length ≤ 100000) : CallP Tryz.prog 36 [vT s, vY at'] (.s (.d (dTs (cutL at' s)))) := by
  refine callP_of_ex (rc := []) (N := 40) Tryz.func36 rfl rfl Tryz.call36 tab_ok mix rfl rfl (fun cx href => ?_)
  refine AW.loopI (fun i : Nat => ⟨[(0, vT s), (1, vY at'), (5, .s (.own 100)), (6, vI i)], [(100, some (.row 9 (cutL at' (s.take i)).length 1 (fun k => txtEl ((cutL at' (s.take i)).getD k default))))]⟩)
    (fun i => i ≤ s.length) (fun i => s.length - i) 0 (Nat.zero_le _) ?_ ?_
  · exact SubI.of0 href [(100, 7)] rfl ⟨⟨rfl, LeBx.row rfl fun i j hi hj => LeD.of_eq (by
      obtain rfl : i = 0 := by omega
      obtain rfl : j = 0 := by have : j < 1 := hj; omega
      rfl)⟩, trivial⟩ ⟨⟨rfl, LeQ.rfl⟩, ⟨rfl, LeQ.rfl⟩, ⟨rfl, LeQ.rfl⟩, ⟨rfl, LeQ.rfl⟩, trivial⟩
  · intro i hi
    obtain ⟨c1, c2⟩ := cutL_len at' (s.take i)
    have c3 : (s.take i).length = i := by simp; omega
    have c4 := List.length_pos_iff.2 c1
    refine ex.sound (rc := []) tab_ok mix href _ ?_
    refine And.intro (fun h => ?_) (fun h => ?_)
    · have h : (i : Int) < ((bs s).size : Int) := decT h
      rw [bs_size] at h
      have hi' : i < s.length := by omega
      have hts := take_succ_getD s hi'
      refine oi (show 0 ≤ (i : Int) ∧ (i : Int) < ((bs s).size : Int) by rw [bs_size]; omega) ?_
      refine And.intro (fun h2 => ?_) (fun h2 => ?_)
      · have h2 : (((((bs s)[(i : Int).toNat]!).toNat : Int)) == (at'.toNat : Int)) = true := h2
        rw [u8_eq, bs_get, Int.toNat_natCast] at h2
        have e : cutL at' (s.take (i + 1)) = cutL at' (s.take i) ++ [[]] := by
          rw [hts, cutL_snoc, cutStep, h2]; rfl
        refine ob (show ((cutL at' (s.take i)).length + 1) * 16 ≤ _ by omega) ?_
        refine ob (fit1 (lt1 rfl)) ?_
        refine ⟨i + 1, by omega, by omega, ?_⟩
        refine SubI.of0 href [(100, 21)] rfl ⟨⟨rfl, ?_⟩, trivial⟩ ⟨⟨rfl, LeQ.rfl⟩, ⟨rfl, LeQ.rfl⟩, ⟨rfl, LeQ.rfl⟩, ⟨rfl, LeQ.int (w64_of (by omega) (by omega))⟩, trivial⟩
        rw [e]
        exact RowIs.row (el := txtEl) (RowIs.snoc RowIs.refl (lt1 rfl))
      · have h2 : (((((bs s)[(i : Int).toNat]!).toNat : Int)) == (at'.toNat : Int)) = false := h2
        rw [u8_eq, bs_get, Int.toNat_natCast] at h2
        have ew : w64 ((cutL at' (s.take i)).length - 1) = ((cutL at' (s.take i)).length : Int) - 1 := w64_of (by omega) (by omega)
        refine oi (show 0 ≤ w64 ((cutL at' (s.take i)).length - 1) ∧ w64 ((cutL at' (s.take i)).length - 1) < ((cutL at' (s.take i)).length : Int) by rw [ew]; omega) ?_
        have hx : (w64 ((cutL at' (s.take i)).length - 1)).toNat < (cutL at' (s.take i)).length := by rw [ew]; omega
        have ei : w64 ((i : Int) + 1) = (i : Int) + 1 := w64_of (by omega) (by omega)
        refine oi hx ?_
        refine oi (show 0 ≤ (i : Int) ∧ (i : Int) ≤ w64 ((i : Int) + 1) ∧ w64 ((i : Int) + 1) ≤ ((bs s).size : Int) by rw [bs_size, ei]; omega) ?_
        refine oi (show (bs ((cutL at' (s.take i)).getD (w64 ((cutL at' (s.take i)).length - 1)).toNat default)).size + ((bs s).extract (i : Int).toNat (w64 ((i : Int) + 1)).toNat).size ≤ 9223372036854775807 from ?_) ?_
        · have hm : ((cutL at' (s.take i)).getD (w64 ((cutL at' (s.take i)).length - 1)).toNat default) ∈ cutL at' (s.take i) := by
            rw [List.getD_eq_getElem?_getD, List.getElem?_eq_getElem hx]; exact List.getElem_mem hx
          have := cutL_elem hm
          rw [bs_extract, bs_size, bs_size]
          simp only [List.length_drop, List.length_take]
          omega
        refine oi (show 0 ≤ w64 ((cutL at' (s.take i)).length - 1) ∧ w64 ((cutL at' (s.take i)).length - 1) < ((cutL at' (s.take i)).length : Int) by rw [ew]; omega) ?_
        refine ob hx ?_
        refine And.intro (by kernel_rfl) ?_
        refine ⟨i + 1, by omega, by omega, ?_⟩
        refine SubI.of0 href [] rfl ⟨⟨rfl, ?_⟩, trivial⟩ ⟨⟨rfl, LeQ.rfl⟩, ⟨rfl, LeQ.rfl⟩, ⟨rfl, LeQ.rfl⟩, ⟨rfl, LeQ.int ei⟩, trivial⟩
        have e : cutL at' (s.take (i + 1)) = (cutL at' (s.take i)).dropLast ++ [(cutL at' (s.take i)).getLastD [] ++ [s.getD i 0]] := by
          rw [hts, cutL_snoc, cutStep, h2]; rfl
        have en : (w64 ((cutL at' (s.take i)).length - 1)).toNat = (cutL at' (s.take i)).length - 1 := by rw [ew]; omega
        refine LeBx.row (by rw [e]; simp; omega) fun k j hk hj => LeD.of_eq ?_
        obtain rfl : j = 0 := by have : j < 1 := hj; omega
        rw [e, en]
        by_cases hkl : k = (cutL at' (s.take i)).length - 1
        · subst hkl
          refine rowSet_self.trans ?_
          show DV.val (Value.string (bs ((cutL at' (s.take i)).getD ((cutL at' (s.take i)).length - 1) default) ++ (bs s).extract (i : Int).toNat (w64 ((i : Int) + 1)).toNat)) = dT _
          rw [bs_extract, bs_add]
          have e1 : ((s.take (w64 ((i : Int) + 1)).toNat).drop (i : Int).toNat) = [s.getD i 0] := by
            rw [ei, show ((i : Int) + 1).toNat = i + 1 by omega, Int.toNat_natCast, hts, List.drop_append_of_le_length (by omega), List.drop_eq_nil_of_le (by omega), List.nil_append]
          have e2 : (cutL at' (s.take i)).getD ((cutL at' (s.take i)).length - 1) default = (cutL at' (s.take i)).getLastD [] := by
            rw [List.getLastD_eq_getLast?, List.getLast?_eq_getElem?, List.getD_eq_getElem?_getD]; rfl
          rw [e1, e2]
          refine congrArg dT ?_
          have e3 : ∀ (l : List (List UInt8)) (x d : List UInt8), (l ++ [x]).getD l.length d = x := by intro l x d; simp
          rw [show (cutL at' (s.take i)).length - 1 = (cutL at' (s.take i)).dropLast.length by simp]
          exact (e3 _ _ _).symm
        · refine (rowSet_ne hkl).trans ?_
          show txtEl _ 0 = txtEl _ 0
          congr 1
          rw [List.getD_eq_getElem?_getD, List.getD_eq_getElem?_getD, List.getElem?_append_left (by simp; omega), List.getElem?_dropLast, if_pos (by omega)]
    · have h : ¬ (i : Int) < ((bs s).size : Int) := decF h
      rw [bs_size] at h
      obtain rfl : i = s.length := by omega
      rw [List.take_length]
      exact SubR.refl _
end Go.Ch

/- The reference's number. -/
namespace Go.Ch
open Go Go.Ax Go.Proofs Go.Proofs.Tryz
set_option maxRecDepth 100000
set_option pp.maxSteps 400
set_option maxHeartbeats 1000000

theorem u8_of {n : Int} (h : 0 ≤ n) (k : n ≤ 255) : IntKind.u8.wrap n = n := by
  unfold IntKind.wrap
  simp [IntKind.bits, IntKind.signed]
  omega
theorem pow9 {n : Int} {i : Nat} (h : n < 10 ^ i) (hi : i ≤ 9) : n < 1000000000 := by
  have : (10 : Int) ^ i ≤ 10 ^ 9 := by
    have := Nat.pow_le_pow_right (n := 10) (by decide) hi
    exact_mod_cast this
  have e9 : (10 : Int) ^ 9 = 1000000000 := by decide
  omega
theorem numF_step {w : List UInt8} {i : Nat} {n : Int} {neg : Bool} (h : numF w i = some (n, neg)) :
    numF w (i + 1) = (bif i == 0 && w.getD i 0 == 45 then some (n, true)
      else bif decide ((w.getD i 0).toNat < 48) || decide ((w.getD i 0).toNat > 57) then none
      else some (10 * n + (((w.getD i 0).toNat : Int) - 48), neg)) := by rw [numF, h]
theorem numF_none {w : List UInt8} {i : Nat} (h : numF w i = none) : ∀ k, numF w (i + k) = none
  | 0 => h
  | k + 1 => by rw [← Nat.add_assoc, numF, numF_none h k]
theorem Number (w : List UInt8) : CallP Tryz.prog 37 [vT w] (.t [.s (.d (dI (numV w).1)), .s (.d (.val (.bool (numV w).2)))]) := by
  refine callP_of_ex (rc := []) (N := 50) Tryz.func37 rfl rfl Tryz.call37 tab_ok mix rfl rfl (fun cx href => ?_)
  refine And.intro (fun h0 => ?_) (fun h0 => ?_)
  · have h0 : ((bs w).size : Int) > 9 := decT h0
    rw [bs_size] at h0
    rw [show numV w = (0, false) by unfold numV; rw [show decide (w.length > 9) = true by simp; omega]; rfl]
    exact SubR.t ⟨LeD.refl _, fun _ _ h => h, trivial⟩
  have h0 : ¬ ((bs w).size : Int) > 9 := decF h0
  rw [bs_size] at h0
  have hl : w.length ≤ 9 := by omega
  have ev : numV w = match numF w w.length with
      | none => (0, false)
      | some (n, neg) => let m := bif neg then -n else n; (m, Lib.itoa m == w) := by
    unfold numV; rw [show decide (w.length > 9) = false by simp; omega]; rfl
  refine AW.loopI (fun q : Nat × Int × Bool => ⟨[(0, vT w), (4, vI q.2.1), (5, vB q.2.2), (6, vI q.1)], []⟩)
    (fun q => q.1 ≤ w.length ∧ numF w q.1 = some q.2) (fun q => w.length - q.1) (0, 0, false) ⟨Nat.zero_le _, rfl⟩ ?_ ?_
  · exact SubI.of0 href [] rfl trivial ⟨⟨rfl, LeQ.rfl⟩, ⟨rfl, LeQ.rfl⟩, ⟨rfl, LeQ.rfl⟩, ⟨rfl, LeQ.rfl⟩, trivial⟩
  · rintro ⟨i, n, neg⟩ ⟨hi, hn⟩
    simp only at hi hn
    obtain ⟨b1, b2⟩ := numF_bound w i n neg hn
    have b3 := pow9 b2 (by omega)
    have st := numF_step hn
    have n0 : ((i : Int) == 0) = (i == 0) := by rw [Bool.eq_iff_iff, beq_iff_eq, beq_iff_eq]; omega
    have u45 := u8_eq (w.getD i 0) 45
    have d1 : decide (((w.getD i 0).toNat : Int) < 48) = decide ((w.getD i 0).toNat < 48) := decide_eq_decide.2 (by omega)
    have d2 : decide (((w.getD i 0).toNat : Int) > 57) = decide ((w.getD i 0).toNat > 57) := decide_eq_decide.2 (by omega)
    refine ex.sound (rc := []) tab_ok mix href _ ?_
    refine And.intro (fun h => ?_) (fun h => ?_)
    · have h : (i : Int) < ((bs w).size : Int) := decT h
      rw [bs_size] at h
      have hi' : i < w.length := by omega
      have hb : 0 ≤ (i : Int) ∧ (i : Int) < ((bs w).size : Int) := by rw [bs_size]; omega
      repeat first | refine sk ?_ | refine st ?_ | refine sg ?_ | refine sh ?_ | refine su ?_ | refine sn1 ?_ | refine sn0 ?_ | refine And.intro (show imp none (gimp _ none) from trivial) ?_
      refine And.intro (fun _ => hb) ?_
      repeat first | refine sk ?_ | refine st ?_ | refine sg ?_ | refine sh ?_ | refine su ?_ | refine sn1 ?_ | refine sn0 ?_ | refine And.intro (show imp none (gimp _ none) from trivial) ?_
      refine And.intro (fun h2 => ?_) (fun h2 => ?_)
      · have h2 : (((i : Int) == 0) && ((((bs w)[(i : Int).toNat]!).toNat : Int) == 45)) = true := h2
        have h2 : (i == 0 && w.getD i 0 == 45) = true := by rw [← n0, ← u45, ← bs_get]; exact h2
        rw [h2] at st
        refine ⟨(i + 1, n, true), ⟨by simp only; omega, st⟩, by simp only; omega, ?_⟩
        exact SubI.of0 href [] rfl trivial ⟨⟨rfl, LeQ.rfl⟩, ⟨rfl, LeQ.rfl⟩, ⟨rfl, LeQ.lit rfl⟩, ⟨rfl, LeQ.int (w64_of (by simp only; omega) (by simp only; omega))⟩, trivial⟩
      · have h2 : (((i : Int) == 0) && ((((bs w)[(i : Int).toNat]!).toNat : Int) == 45)) = false := h2
        have h2 : (i == 0 && w.getD i 0 == 45) = false := by rw [← n0, ← u45, ← bs_get]; exact h2
        rw [h2] at st
        refine oi hb ?_
        repeat first | refine sk ?_ | refine st ?_ | refine sg ?_ | refine sh ?_ | refine su ?_ | refine sn1 ?_ | refine sn0 ?_ | refine And.intro (show imp none (gimp _ none) from trivial) ?_
        refine And.intro (fun _ => hb) ?_
        repeat first | refine sk ?_ | refine st ?_ | refine sg ?_ | refine sh ?_ | refine su ?_ | refine sn1 ?_ | refine sn0 ?_ | refine And.intro (show imp none (gimp _ none) from trivial) ?_
        refine And.intro (fun h3 => ?_) (fun h3 => ?_)
        · have h3 : (decide ((((bs w)[(i : Int).toNat]!).toNat : Int) < 48) || decide ((((bs w)[(i : Int).toNat]!).toNat : Int) > 57)) = true := h3
          have h3 : (decide ((w.getD i 0).toNat < 48) || decide ((w.getD i 0).toNat > 57)) = true := by rw [← d1, ← d2, ← bs_get]; exact h3
          rw [h3] at st
          have := numF_none st (w.length - (i + 1))
          rw [show i + 1 + (w.length - (i + 1)) = w.length by omega] at this
          rw [ev, this]
          exact SubR.t ⟨LeD.refl _, fun _ _ h => h, trivial⟩
        · have h3 : (decide ((((bs w)[(i : Int).toNat]!).toNat : Int) < 48) || decide ((((bs w)[(i : Int).toNat]!).toNat : Int) > 57)) = false := h3
          have h3 : (decide ((w.getD i 0).toNat < 48) || decide ((w.getD i 0).toNat > 57)) = false := by rw [← d1, ← d2, ← bs_get]; exact h3
          rw [h3] at st
          simp only [Bool.or_eq_false_iff, decide_eq_false_iff_not] at h3
          refine oi hb ?_
          refine ⟨(i + 1, 10 * n + (((w.getD i 0).toNat : Int) - 48), neg), ⟨by simp only; omega, st⟩, by simp only; omega, ?_⟩
          refine SubI.of0 href [] rfl trivial ⟨⟨rfl, LeQ.rfl⟩, ⟨rfl, LeQ.int ?_⟩, ⟨rfl, LeQ.rfl⟩, ⟨rfl, LeQ.int (w64_of (by simp only; omega) (by simp only; omega))⟩, trivial⟩
          show w64 (w64 (10 * n) + w64 (IntKind.u8.wrap ((((bs w)[(i : Int).toNat]!).toNat : Int) - 48))) = _
          rw [Int.toNat_natCast, bs_get, u8_of (by omega) (by omega), w64_of (n := 10 * n) (by omega) (by omega), w64_of (n := ((w.getD i 0).toNat : Int) - 48) (by omega) (by omega), w64_of (by omega) (by omega)]
    · have h : ¬ (i : Int) < ((bs w).size : Int) := decF h
      rw [bs_size] at h
      obtain rfl : i = w.length := by omega
      rw [hn] at ev
      refine And.intro (fun h2 => ?_) (fun h2 => ?_)
      · have h2 : neg = true := h2
        subst h2
        have en : w64 (0 - n) = -n := by rw [w64_of (by omega) (by omega)]; omega
        refine callN (Decimal (w64 (0 - n)) (by omega) (by omega)) ?_
        rw [ev]
        refine SubR.of_eq ?_
        show AV.t [.s (.d (dI (w64 (0 - n)))), .s (.d (.val (.bool ((bs (Lib.itoa (w64 (0 - n)))).toList == (bs w).toList))))] = _
        rw [bs_toList, bs_toList, en]; rfl
      · have h2 : neg = false := h2
        subst h2
        refine callN (Decimal n (by omega) (by omega)) ?_
        rw [ev]
        refine SubR.of_eq ?_
        show AV.t [.s (.d (dI (n))), .s (.d (.val (.bool ((bs (Lib.itoa (n))).toList == (bs w).toList))))] = _
        rw [bs_toList, bs_toList]; rfl
end Go.Ch

/- The reference's Print. -/
namespace Go.Ch
open Go Go.Ax Go.Proofs Go.Proofs.Tryz
set_option maxRecDepth 100000
set_option pp.maxSteps 400
set_option maxHeartbeats 1000000

theorem bodyR_len {g : Grid} (v : GVal g) : ∀ k, k ≤ g.levels.length → (bodyR g k).length ≤ 10 * k
  | 0, _ => by simp [bodyR]
  | k + 1, h => by
    have := bodyR_len v k (by omega)
    have := wrd_len (lev_small v (show k < g.levels.length by omega))
    simp only [bodyR, List.length_append, List.length_cons]
    omega
theorem textR_len {g : Grid} (v : GVal g) {k : Nat} (h : k ≤ g.levels.length) : (textR g k).length ≤ 54 + 10 * k := by
  have := headT_len v 5 (Nat.le_refl _)
  have := bodyR_len v k h
  simp only [textR, List.length_append]
  omega
theorem textR_succ (g : Grid) (k : Nat) : textR g (k + 1) = textR g k ++ [sepR g k] ++ wrd (g.levels.getD k 0) := by
  simp [textR, bodyR]
theorem RPrint (g : Grid) (v : GVal g) : CallP Tryz.prog 10 [grid g] (vT (textG g)) := by
  have hn := v.n
  refine callP_of_ex (rc := []) (N := 66) Tryz.func10 rfl rfl Tryz.call10 tab_ok mix rfl rfl (fun cx href => ?_)
  refine AW.loopI (fun i : Nat => ⟨[(1, .s (.ptr 1 0)), (3, vT (headT g i)), (4, .s (.own 17)), (5, vI i)], [(1, some (gridB g)), (17, some (.row 3 5 1 (intEl (hd g))))]⟩)
    (fun i => i ≤ 5) (fun i => 5 - i) 0 (Nat.zero_le _) ?_ ?_
  · exact SubI.of0 href [] rfl ⟨⟨rfl, LeBx.rfl⟩, ⟨rfl, LeBx.row rfl fun i j hi hj => LeD.of_eq (by
      obtain rfl : j = 0 := by have : j < 1 := hj; omega
      match i, hi with
      | 0, _ => rfl
      | 1, _ => rfl
      | 2, _ => rfl
      | 3, _ => rfl
      | 4, _ => rfl)⟩, trivial⟩ ⟨⟨rfl, LeQ.rfl⟩, ⟨rfl, LeQ.rfl⟩, ⟨rfl, LeQ.rfl⟩, ⟨rfl, LeQ.rfl⟩, trivial⟩
  · intro i hi
    refine ex.sound (rc := []) tab_ok mix href _ ?_
    refine And.intro (fun h => ?_) (fun h => ?_)
    · have h : (i : Int) < ((5 : Nat) : Int) := decT h
      have hi' : i < 5 := by omega
      have hs := hd_small v hi'
      have hl := itoa_len8 hs
      have hh := headT_len v i (by omega)
      refine oi (show 0 ≤ (i : Int) ∧ (i : Int) < ((5 : Nat) : Int) by omega) ?_
      refine oi (show (i : Int).toNat < 5 by omega) ?_
      refine callN (Decimal ((hd g).getD i 0) (by omega) (by omega)) ?_
      refine oi (show (bs [32]).size + (bs (Lib.itoa ((hd g).getD i 0))).size ≤ 9223372036854775807 by rw [bs_size, bs_size]; simp only [List.length_cons, List.length_nil]; omega) ?_
      refine oi (show (bs (headT g i)).size + (bs [32] ++ bs (Lib.itoa ((hd g).getD i 0))).size ≤ 9223372036854775807 by rw [bs_add, bs_size, bs_size]; simp only [List.length_append, List.length_cons, List.length_nil]; omega) ?_
      refine ⟨i + 1, by omega, by omega, SubI.of0 href [] rfl ⟨⟨rfl, LeBx.rfl⟩, ⟨rfl, LeBx.rfl⟩, trivial⟩ ⟨⟨rfl, LeQ.rfl⟩, ⟨rfl, LeQ.of_eq ?_⟩, ⟨rfl, LeQ.rfl⟩, ⟨rfl, LeQ.int (w64_of (by omega) (by omega))⟩, trivial⟩⟩
      show AV.s (.d (.val (.string (bs (headT g i) ++ (bs [32] ++ bs (Lib.itoa ((hd g).getD i 0))))))) = _
      rw [bs_add, bs_add, headT_succ g hi']; rfl
    · have h : ¬ (i : Int) < ((5 : Nat) : Int) := decF h
      obtain rfl : i = 5 := by omega
      refine AW.loopI (fun i : Nat => ⟨[(1, .s (.ptr 1 0)), (3, vT (textR g i)), (6, vI i)], [(1, some (gridB g))]⟩)
        (fun i => i ≤ g.levels.length) (fun i => g.levels.length - i) 0 (Nat.zero_le _) ?_ ?_
      · exact SubI.of0 href [] rfl ⟨⟨rfl, LeBx.rfl⟩, trivial⟩ ⟨⟨rfl, LeQ.rfl⟩, ⟨rfl, LeQ.of_eq (by rw [show textR g 0 = headT g 5 by simp [textR, bodyR]]; rfl)⟩, ⟨rfl, LeQ.rfl⟩, trivial⟩
      · intro i hi
        have hm := textR_len v hi
        refine ex.sound (rc := []) tab_ok mix href _ ?_
        refine And.intro (fun h => ?_) (fun h => ?_)
        · have h : (i : Int) < g.levels.length := decT h
          have hi' : i < g.levels.length := by omega
          have hs := lev_small v hi'
          have hw := itoa_len8 hs
          have hc := v.cols
          refine oi (show g.cols ≠ 0 by omega) ?_
          refine And.intro (fun h2 => ?_) (fun h2 => ?_)
          · have h2 : ((i : Int).tmod g.cols == 0) = true := h2
            have es : sepR g i = 10 := by unfold sepR; rw [h2]; rfl
            refine oi (show (bs (textR g i)).size + (bs [10]).size ≤ 9223372036854775807 by rw [bs_size, bs_size]; simp only [List.length_cons, List.length_nil]; omega) ?_
            refine oi (show 0 ≤ (i : Int) ∧ (i : Int) < (g.levels.length : Int) by omega) ?_
            refine And.intro (fun h3 => ?_) (fun h3 => ?_)
            · have h3 : (g.levels.getD i 0 == 30000) = true := h3
              have ew : wrd (g.levels.getD i 0) = [45] := by unfold wrd; rw [h3]; rfl
              refine oi (show (bs (textR g i) ++ bs [10]).size + (bs ([45])).size ≤ 9223372036854775807 by rw [bs_add, bs_size, bs_size]; simp only [List.length_append, List.length_cons, List.length_nil]; omega) ?_
              refine ⟨i + 1, by omega, by omega, SubI.of0 href [] rfl ⟨⟨rfl, LeBx.rfl⟩, trivial⟩ ⟨⟨rfl, LeQ.rfl⟩, ⟨rfl, LeQ.of_eq ?_⟩, ⟨rfl, LeQ.int (w64_of (by omega) (by omega))⟩, trivial⟩⟩
              show AV.s (.d (.val (.string (bs (textR g i) ++ bs [10] ++ bs ([45]))))) = _
              rw [bs_add, bs_add, textR_succ, es, ew]; rfl
            · have h3 : (g.levels.getD i 0 == 30000) = false := h3
              have ew : wrd (g.levels.getD i 0) = Lib.itoa (g.levels.getD i 0) := by unfold wrd; rw [h3]; rfl
              refine oi (show 0 ≤ (i : Int) ∧ (i : Int) < (g.levels.length : Int) by omega) ?_
              refine callN (Decimal (g.levels.getD i 0) (by omega) (by omega)) ?_
              refine oi (show (bs (textR g i) ++ bs [10]).size + (bs (Lib.itoa (g.levels.getD i 0))).size ≤ 9223372036854775807 by rw [bs_add, bs_size, bs_size]; simp only [List.length_append, List.length_cons, List.length_nil]; omega) ?_
              refine ⟨i + 1, by omega, by omega, SubI.of0 href [] rfl ⟨⟨rfl, LeBx.rfl⟩, trivial⟩ ⟨⟨rfl, LeQ.rfl⟩, ⟨rfl, LeQ.of_eq ?_⟩, ⟨rfl, LeQ.int (w64_of (by omega) (by omega))⟩, trivial⟩⟩
              show AV.s (.d (.val (.string (bs (textR g i) ++ bs [10] ++ bs (Lib.itoa (g.levels.getD i 0)))))) = _
              rw [bs_add, bs_add, textR_succ, es, ew]; rfl
          · have h2 : ((i : Int).tmod g.cols == 0) = false := h2
            have es : sepR g i = 32 := by unfold sepR; rw [h2]; rfl
            refine oi (show (bs (textR g i)).size + (bs [32]).size ≤ 9223372036854775807 by rw [bs_size, bs_size]; simp only [List.length_cons, List.length_nil]; omega) ?_
            refine oi (show 0 ≤ (i : Int) ∧ (i : Int) < (g.levels.length : Int) by omega) ?_
            refine And.intro (fun h3 => ?_) (fun h3 => ?_)
            · have h3 : (g.levels.getD i 0 == 30000) = true := h3
              have ew : wrd (g.levels.getD i 0) = [45] := by unfold wrd; rw [h3]; rfl
              refine oi (show (bs (textR g i) ++ bs [32]).size + (bs ([45])).size ≤ 9223372036854775807 by rw [bs_add, bs_size, bs_size]; simp only [List.length_append, List.length_cons, List.length_nil]; omega) ?_
              refine ⟨i + 1, by omega, by omega, SubI.of0 href [] rfl ⟨⟨rfl, LeBx.rfl⟩, trivial⟩ ⟨⟨rfl, LeQ.rfl⟩, ⟨rfl, LeQ.of_eq ?_⟩, ⟨rfl, LeQ.int (w64_of (by omega) (by omega))⟩, trivial⟩⟩
              show AV.s (.d (.val (.string (bs (textR g i) ++ bs [32] ++ bs ([45]))))) = _
              rw [bs_add, bs_add, textR_succ, es, ew]; rfl
            · have h3 : (g.levels.getD i 0 == 30000) = false := h3
              have ew : wrd (g.levels.getD i 0) = Lib.itoa (g.levels.getD i 0) := by unfold wrd; rw [h3]; rfl
              refine oi (show 0 ≤ (i : Int) ∧ (i : Int) < (g.levels.length : Int) by omega) ?_
              refine callN (Decimal (g.levels.getD i 0) (by omega) (by omega)) ?_
              refine oi (show (bs (textR g i) ++ bs [32]).size + (bs (Lib.itoa (g.levels.getD i 0))).size ≤ 9223372036854775807 by rw [bs_add, bs_size, bs_size]; simp only [List.length_append, List.length_cons, List.length_nil]; omega) ?_
              refine ⟨i + 1, by omega, by omega, SubI.of0 href [] rfl ⟨⟨rfl, LeBx.rfl⟩, trivial⟩ ⟨⟨rfl, LeQ.rfl⟩, ⟨rfl, LeQ.of_eq ?_⟩, ⟨rfl, LeQ.int (w64_of (by omega) (by omega))⟩, trivial⟩⟩
              show AV.s (.d (.val (.string (bs (textR g i) ++ bs [32] ++ bs (Lib.itoa (g.levels.getD i 0)))))) = _
              rw [bs_add, bs_add, textR_succ, es, ew]; rfl
        · have h : ¬ (i : Int) < g.levels.length := decF h
          obtain rfl : i = g.levels.length := by omega
          refine oi (show (bs (textR g g.levels.length)).size + (bs [10]).size ≤ 9223372036854775807 by rw [bs_size, bs_size]; simp only [List.length_cons, List.length_nil]; omega) ?_
          refine SubR.of_eq ?_
          show AV.s (.d (.val (.string (bs (textR g g.levels.length) ++ bs [10])))) = _
          rw [bs_add, textR_eq v]
end Go.Ch

/- bed.Print and bed.Parse. -/
namespace Go.Ch
open Go Go.Ax Go.Proofs Go.Proofs.Tryz
set_option maxRecDepth 100000
set_option pp.maxSteps 400
set_option maxHeartbeats 1000000

def prT (g : Grid) : List UInt8 := bif errG g != 0 then [] else textG g
theorem BPrint (g : Grid) (hl : g.levels.length ≤ 9223372036854775807) : CallP Tryz.prog 7 [grid g] (.t [.s (.d (dT (prT g))), .s (.d (dI (errG g)))]) := by
  refine callP_of_ex (rc := []) (N := 12) Tryz.func7 rfl rfl Tryz.call7 tab_ok mix rfl rfl (fun cx href => ?_)
  refine callN (bcheck g hl) ?_
  refine And.intro (fun h => ?_) (fun h => ?_)
  · have h : (errG g != 0) = true := h
    rw [show prT g = [] by unfold prT; rw [h]; rfl]
    exact SubR.refl _
  · have h : (errG g != 0) = false := h
    have e : errG g = 0 := by simpa using h
    rw [show prT g = textG g by unfold prT; rw [h]; rfl]
    refine callN (Printed g (GVal.of e)) ?_
    rw [e]
    exact SubR.refl _
theorem CloneI (l : List Int) (hl : l.length ≤ 1000000) : CallP Tryz.prog 33 [vInts l] (vInts l) := by
  refine callP_of_ex (rc := []) (N := 8) Tryz.func33 rfl rfl Tryz.call33 tab_ok mix rfl rfl (fun cx href => ?_)
  intro b hb
  refine And.intro (fun h => ?_) (fun h => ?_)
  · have h0 := hb h
    obtain rfl : l = [] := List.length_eq_zero_iff.1 h0
    exact SubR.le (LeD.nil (s' := 1) (f := intEl []))
  · refine ob (show (0 + l.length) * 8 ≤ 140737488355328 by omega) ?_
    refine ob (fun k j _ _ => rfl) ?_
    refine SubR.le (LeD.slc' (Nat.zero_add _) fun i j hi hj => LeD.of_eq ?_)
    unfold catF
    rw [if_neg (Nat.not_lt_zero i)]
    rfl
end Go.Ch

/- bed.Parse. -/
namespace Go.Ch
open Go Go.Ax Go.Proofs Go.Proofs.Tryz
set_option maxRecDepth 100000
set_option pp.maxSteps 400
set_option maxHeartbeats 1000000

noncomputable def parG (s : List UInt8) : Grid := bif decide (s.length > 20000) then zeroG else (readT s).getD zeroG
noncomputable def parE (s : List UInt8) : Int := bif decide (s.length > 20000) then 8 else match readT s with | some _ => 0 | none => 7
theorem fieldsGo_len : ∀ (f : Nat) (cur l : List UInt8), (Lib.fieldsGoD f cur l).length ≤ f + 1
  | 0, cur, l => by unfold Lib.fieldsGoD; split <;> simp
  | f + 1, cur, l => by
    unfold Lib.fieldsGoD
    split
    · split <;> simp
    · split
      · have := fieldsGo_len f [] (l.drop (Lib.decodeL l).2)
        rw [List.length_append]
        split <;> simp <;> omega
      · have := fieldsGo_len f (cur ++ l.take (Lib.decodeL l).2) (l.drop (Lib.decodeL l).2)
        omega
theorem fieldsGo_elem : ∀ (f : Nat) (cur l w : List UInt8), w ∈ Lib.fieldsGoD f cur l → w.length ≤ cur.length + l.length
  | 0, cur, l, w, h => by
    unfold Lib.fieldsGoD at h
    split at h
    · cases h
    · simp at h; subst h; omega
  | f + 1, cur, l, w, h => by
    unfold Lib.fieldsGoD at h
    split at h
    · split at h
      · cases h
      · simp at h; subst h; omega
    · split at h
      · rw [List.mem_append] at h
        rcases h with h | h
        · split at h
          · cases h
          · simp at h; subst h; omega
        · have := fieldsGo_elem f _ _ w h
          simp at this; omega
      · have := fieldsGo_elem f _ _ w h
        simp at this; omega
theorem fields_len (s : List UInt8) : (Lib.fieldsD s).length ≤ s.length + 2 := fieldsGo_len _ _ _
theorem fields_elem {s w : List UInt8} (h : w ∈ Lib.fieldsD s) : w.length ≤ s.length := by
  have := fieldsGo_elem _ _ _ w h
  simpa using this
/-- What is known behind i words. -/
def PI (s : List UInt8) (q : Nat × List Int) : Prop := q.1 + 1 ≤ (Lib.fieldsD s).length ∧ q.2.length = q.1 ∧ ∀ g, GVal g → textG g = s → q.2 = (allN g).take q.1
theorem word_at {s : List UInt8} {g : Grid} (v : GVal g) (h : textG g = s) {i : Nat} (hi : i + 1 < (Lib.fieldsD s).length) :
    i < (allN g).length ∧ rdW i ((Lib.fieldsD s).getD (i + 1) []) = some ((allN g).getD i 0) := by
  have hf := fields_text g
  rw [h] at hf
  rw [hf] at hi ⊢
  have hi' : i < (wds g).length := by simpa using hi
  have hi2 : i < (allN g).length := by rw [← wds_length]; exact hi'
  refine ⟨hi2, ?_⟩
  have := rdW_wds v hi'
  rw [List.getD_eq_getElem?_getD, List.getD_eq_getElem?_getD, List.getElem?_cons_succ, List.getElem?_eq_getElem hi', List.getElem?_eq_getElem hi2]
  exact this
theorem PI.next {s : List UInt8} {i : Nat} {L : List Int} (h : PI s (i, L)) (hi : i + 1 < (Lib.fieldsD s).length) {n : Int} (hn : rdW i ((Lib.fieldsD s).getD (i + 1) []) = some n) : PI s (i + 1, L ++ [n]) := by
  obtain ⟨h1, h2, h3⟩ := h
  refine ⟨by simp only; omega, by simp only [List.length_append, List.length_cons, List.length_nil]; simp only at h2; omega, fun g v e => ?_⟩
  obtain ⟨k1, k2⟩ := word_at v e hi
  rw [hn] at k2
  have := Option.some.inj k2
  simp only at h3 ⊢
  rw [h3 g v e, List.take_add_one, List.getElem?_eq_getElem k1, this]
  simp [List.getD, k1]
theorem PI.none {s : List UInt8} {i : Nat} (hi : i + 1 < (Lib.fieldsD s).length) (hn : rdW i ((Lib.fieldsD s).getD (i + 1) []) = none) : readT s = none := by
  refine readT_none fun g v e => ?_
  obtain ⟨_, k2⟩ := word_at v e hi
  rw [hn] at k2; cases k2
theorem par_none {s : List UInt8} (h : ¬ s.length > 20000) (hr : readT s = none) : parG s = zeroG ∧ parE s = 7 := by
  unfold parG parE
  rw [hr, show decide (s.length > 20000) = false by simpa using h]
  exact ⟨rfl, rfl⟩
def gL (L : List Int) : Grid := ⟨L.getD 0 0, L.getD 1 0, L.getD 2 0, L.getD 3 0, L.getD 4 0, L.drop 5⟩
abbrev wsF (W : List (List UInt8)) : Nat → Nat → DV := fun i => (fun i _ => dT (W.getD i [])) ((1 : Int).toNat + i)
theorem BParse (s : List UInt8) (hs : s.length ≤ 100000) : CallP Tryz.prog 9 [vT s] (rGE (parG s) (parE s)) := by
  refine callP_of_aw (N := 86) Tryz.func9 rfl rfl Tryz.call9 tab_ok rfl rfl (fun cx href => ?_)
  refine AW.seq (ex.sound (rc := []) tab_ok mix href _ ?_)
  refine AW.seq (ex.sound (rc := []) tab_ok mix href _ ?_)
  refine And.intro (fun h => ?_) (fun h => ?_)
  · have h : ((bs s).size : Int) > 20000 := decT h
    rw [bs_size] at h
    have e : decide (s.length > 20000) = true := by simp; omega
    rw [show parG s = zeroG by unfold parG; rw [e]; rfl]
    exact zero_rGE (by unfold parE; rw [e]; rfl)
  have h0 : ¬ ((bs s).size : Int) > 20000 := decF h
  rw [bs_size] at h0
  have h0 : ¬ s.length > 20000 := by omega
  refine AW.seq (ex.sound (rc := []) tab_ok mix href _ ?_)
  refine callN (Fields s (by omega)) ?_
  have hfl := fields_len s
  have hfe := @fields_elem s
  have hpi0 : ∀ g, GVal g → textG g = s → Lib.fieldsD s = gridW :: wds g := fun g _ e => by rw [← e]; exact fields_text g
  have hwa := @word_at s
  refine AW.seq (ex.sound (rc := []) tab_ok mix href _ ?_)
  repeat first | refine sk ?_ | refine st ?_ | refine sg ?_ | refine sh ?_ | refine su ?_ | refine sn1 ?_ | refine sn0 ?_ | refine And.intro (show imp none (gimp _ none) from trivial) ?_
  refine And.intro (fun hg => ?_) ?_
  · have hg : (!(decide (((Lib.fieldsD s).length : Int) < 6))) = true := hg
    simp at hg
    exact ⟨by decide, show (0 : Int) < ((Lib.fieldsD s).length : Int) by omega⟩
  repeat first | refine sk ?_ | refine st ?_ | refine sg ?_ | refine sh ?_ | refine su ?_ | refine sn1 ?_ | refine sn0 ?_ | refine And.intro (show imp none (gimp _ none) from trivial) ?_
  refine And.intro (fun h => ?_) (fun h => ?_)
  · have h : (decide (((Lib.fieldsD s).length : Int) < 6) || !((bs ((Lib.fieldsD s).getD 0 [])).toList == (bs gridW).toList)) = true := h
    have hr : readT s = none := by
      refine readT_none fun g v e => ?_
      rw [hpi0 g v e, bs_toList, bs_toList] at h
      simp [wds, hd] at h
      omega
    obtain ⟨e1, e2⟩ := par_none h0 hr
    rw [e1, e2]
    exact zero_rGE rfl
  have h : (decide (((Lib.fieldsD s).length : Int) < 6) || !((bs ((Lib.fieldsD s).getD 0 [])).toList == (bs gridW).toList)) = false := h
  have h6 : 6 ≤ (Lib.fieldsD s).length := by
    simp only [Bool.or_eq_false_iff, decide_eq_false_iff_not] at h
    omega
  have hP := @PI.next s
  have hN := @PI.none s
  have hp0 : PI s (0, []) := ⟨by simp only; omega, rfl, fun g _ _ => rfl⟩
  have hb0 : ∀ i L, PI s (i, L) → i + 1 ≤ (Lib.fieldsD s).length ∧ L.length = i := fun i L h => ⟨h.1, h.2.1⟩
  generalize hW : Lib.fieldsD s = W at *
  refine AW.seq (ex.sound (rc := []) tab_ok mix href _ ?_)
  refine AW.seq (ex.sound (rc := []) tab_ok mix href _ ?_)
  refine oi (show 0 ≤ (1 : Int) ∧ (1 : Int) ≤ (W.length : Int) ∧ (W.length : Int) ≤ (W.length : Int) by omega) ?_
  have e1 : ((W.length : Int) - 1).toNat = W.length - 1 := by omega
  refine AW.loopI (fun q : Nat × List Int => ⟨[(0, vT s), (2, .s (.ptr 2 0)), (5, .s (.mo q.2.isEmpty 100)), (28, .s (.d (.slc ((W.length : Int) - 1).toNat 1 (wsF W)))), (29, vI ((W.length : Int) - 1).toNat), (30, vI q.1)],
      [(2, some (.cells (zvs ty24.zero))), (100, some (.mrow 3 q.2.length 1 (intEl q.2)))]⟩)
    (PI s) (fun q => W.length - q.1) (0, []) hp0 ?_ ?_
  · exact SubI.of0 href [] rfl ⟨⟨rfl, LeBx.rfl⟩, ⟨rfl, rfl⟩, trivial⟩ ⟨⟨rfl, LeQ.rfl⟩, ⟨rfl, LeQ.rfl⟩, ⟨rfl, LeQ.nil rfl⟩, ⟨rfl, LeQ.rfl⟩, ⟨rfl, LeQ.rfl⟩, ⟨rfl, LeQ.rfl⟩, trivial⟩
  · rintro ⟨i, L⟩ hj
    obtain ⟨hi, hL⟩ := hb0 i L hj
    refine ex.sound (rc := []) tab_ok mix href _ ?_
    refine And.intro (fun h => ?_) (fun h => ?_)
    · have h : (i : Int) < (((W.length : Int) - 1).toNat : Int) := decT h
      have hi' : i + 1 < W.length := by omega
      have eg : W.getD ((1 : Int).toNat + (i : Int).toNat) [] = W.getD (i + 1) [] := by
        rw [show (1 : Int).toNat + (i : Int).toNat = i + 1 by omega]
      have hwl : (W.getD (i + 1) []).length ≤ s.length := by
        rw [List.getD_eq_getElem?_getD, List.getElem?_eq_getElem hi']
        exact hfe (List.getElem_mem hi')
      refine oi (show 0 ≤ (i : Int) ∧ (i : Int) < (((W.length : Int) - 1).toNat : Int) by omega) ?_
      refine callN (Atoi (W.getD ((1 : Int).toNat + (i : Int).toNat) []) (by rw [eg]; omega)) ?_
      repeat first | refine sk ?_ | refine st ?_ | refine sg ?_ | refine sh ?_ | refine su ?_ | refine sn1 ?_ | refine sn0 ?_ | refine And.intro (show imp none (gimp _ none) from trivial) ?_
      have r1 : ∀ b, (((bs (W.getD ((1 : Int).toNat + (i : Int).toNat) [])).toList == (bs [45]).toList) && decide (((bif L.isEmpty then 0 else L.length : Nat) : Int) ≥ 5)) = b → (W.getD (i + 1) [] == [45] && decide (5 ≤ i)) = b := by
        intro b h
        rw [bif_len, eg, bs_toList, bs_toList, hL] at h
        rw [← h]
        congr 1
        exact decide_eq_decide.2 (by omega)
      have hrw : rdW i (W.getD (i + 1) []) = bif (W.getD (i + 1) [] == [45] && decide (5 ≤ i)) then some 30000 else bif atE (W.getD (i + 1) []) then none else some (atN (W.getD (i + 1) [])) := rfl
      refine And.intro (fun h2 => ?_) (fun h2 => ?_)
      · have h2 := r1 _ h2
        have hrd : rdW i (W.getD (i + 1) []) = some 30000 := by rw [hrw, h2]; rfl
        refine ob (Nat.zero_lt_one) ?_
        refine ob (show ((bif L.isEmpty then 0 else L.length) + 1) * 8 ≤ 140737488355328 by rw [bif_len]; omega) ?_
        refine ob (fit1 (lt1 rfl)) ?_
        refine ⟨(i + 1, L ++ [30000]), hP hj hi' hrd, by simp only; omega, ?_⟩
        exact SubI.of0 href [(100, 54)] rfl ⟨⟨rfl, LeBx.rfl⟩, ⟨rfl, RowIs.mrow (el := fun x _ => dI x) (RowIs.snoc intRow (lt1 rfl))⟩, trivial⟩ ⟨⟨rfl, LeQ.rfl⟩, ⟨rfl, LeQ.rfl⟩, ⟨rfl, LeQ.mo (isEmpty_snoc _ _)⟩, ⟨rfl, LeQ.rfl⟩, ⟨rfl, LeQ.rfl⟩, ⟨rfl, LeQ.int (w64_of (by simp only; omega) (by simp only; omega))⟩, trivial⟩
      · have h2 := r1 _ h2
        rw [h2, cond_false] at hrw
        rw [eg]
        intro b hb
        refine And.intro (fun h3 => ?_) (fun h3 => ?_)
        · have h3 : b = true := h3
          have ea : atE (W.getD (i + 1) []) = true := by
            cases hx : atE (W.getD (i + 1) []) with
            | true => rfl
            | false => have := hb (by rw [hx, h3]; rfl); cases this
          rw [ea] at hrw
          obtain ⟨e1, e2⟩ := par_none h0 (hN hi' hrw)
          rw [e1, e2]
          exact zero_rGE rfl
        · have h3 : b = false := h3
          have ea : atE (W.getD (i + 1) []) = false := by
            cases hx : atE (W.getD (i + 1) []) with
            | false => rfl
            | true => have := hb (by rw [hx, h3]; rfl); cases this
          rw [ea] at hrw
          have hrd : rdW i (W.getD (i + 1) []) = some (atN (W.getD (i + 1) [])) := hrw
          refine ob (Nat.zero_lt_one) ?_
          refine ob (show ((bif L.isEmpty then 0 else L.length) + 1) * 8 ≤ 140737488355328 by rw [bif_len]; omega) ?_
          refine ob (fit1 (lt1 rfl)) ?_
          refine ⟨(i + 1, L ++ [atN (W.getD (i + 1) [])]), hP hj hi' hrd, by simp only; omega, ?_⟩
          exact SubI.of0 href [(100, 54)] rfl ⟨⟨rfl, LeBx.rfl⟩, ⟨rfl, RowIs.mrow (el := fun x _ => dI x) (RowIs.snoc intRow (lt1 rfl))⟩, trivial⟩ ⟨⟨rfl, LeQ.rfl⟩, ⟨rfl, LeQ.rfl⟩, ⟨rfl, LeQ.mo (isEmpty_snoc _ _)⟩, ⟨rfl, LeQ.rfl⟩, ⟨rfl, LeQ.rfl⟩, ⟨rfl, LeQ.int (w64_of (by simp only; omega) (by simp only; omega))⟩, trivial⟩
    · have h : ¬ (i : Int) < (((W.length : Int) - 1).toNat : Int) := decF h
      have hiW : i + 1 = W.length := by omega
      have hL5 : 5 ≤ L.length := by omega
      have hz : L.isEmpty = false := by cases L <;> first | rfl | simp at hL5
      refine AW.subI (SubI.own 5 100 rfl hz rfl) ?_
      refine AW.subM (σ' := ⟨[(0, vT s), (2, .s (.ptr 2 0)), (5, vInts L)], [(2, some (.cells (zvs ty24.zero)))]⟩) (SubM.of href [] [100] rfl rfl rfl ⟨⟨rfl, LeBxf.rfl⟩, trivial⟩ ⟨⟨rfl, LeQf.rfl⟩, ⟨rfl, LeQf.rfl⟩, ⟨rfl, LeQf.own (by simp) rfl⟩, trivial⟩) ?_
      refine AW.seq (ex.sound (rc := []) tab_ok mix href _ ?_)
      refine oi (show 0 ≤ (0 : Int) ∧ (0 : Int) < (L.length : Int) by omega) ?_
      refine oi (show 0 ≤ (1 : Int) ∧ (1 : Int) < (L.length : Int) by omega) ?_
      refine oi (show 0 ≤ (2 : Int) ∧ (2 : Int) < (L.length : Int) by omega) ?_
      refine oi (show 0 ≤ (3 : Int) ∧ (3 : Int) < (L.length : Int) by omega) ?_
      refine oi (show 0 ≤ (4 : Int) ∧ (4 : Int) < (L.length : Int) by omega) ?_
      refine oi (show 0 ≤ (5 : Int) ∧ (5 : Int) ≤ (L.length : Int) ∧ (L.length : Int) ≤ (L.length : Int) by omega) ?_
      have hLl : L.length ≤ 1000000 := by omega
      refine callN ((CloneI (L.drop 5) (by simp; omega)).conv (args' := _) ⟨LeD.slc' (by simp; omega) fun k j hk hj => LeD.of_eq ?_, trivial⟩) ?_
      · show dI (L.getD ((5 : Int).toNat + k) 0) = dI ((L.drop 5).getD k 0)
        rw [List.getD_eq_getElem?_getD, List.getD_eq_getElem?_getD, List.getElem?_drop]; rfl
      refine And.intro (by kernel_rfl) ?_
      have hdl : (gL L).levels.length ≤ 9223372036854775807 := by simp [gL]; omega
      have hall : ∀ g, GVal g → textG g = s → gL L = g := by
        intro g v e
        have h1 := hj.2.2 g v e
        simp only at h1
        have h2 := congrArg List.length (hpi0 g v e)
        rw [List.length_cons, wds_length] at h2
        rw [show i = (allN g).length by omega, List.take_length] at h1
        rw [h1]; rfl
      refine AW.seq (ex.sound (rc := []) tab_ok mix href _ ?_)
      refine callN ((bcheck (gL L) hdl).conv (args' := _) ⟨⟨LeD.refl _, LeD.refl _, LeD.refl _, LeD.refl _, LeD.refl _, LeD.refl _, trivial⟩, trivial⟩) ?_
      repeat first | refine sk ?_ | refine st ?_ | refine sg ?_ | refine sh ?_ | refine su ?_ | refine sn1 ?_ | refine sn0 ?_ | refine And.intro (show imp none (gimp _ none) from trivial) ?_
      have hpr : gpol false (errG (gL L) != 0) = true → CallP Tryz.prog 28 [grid (gL L)] (vT (textG (gL L))) := by
        intro hb
        refine Printed (gL L) (GVal.of ?_)
        cases hx : errG (gL L) != 0 with
        | false => simpa using hx
        | true => rw [hx] at hb; cases hb
      refine callGo hpr ?_
      repeat first | refine sk ?_ | refine st ?_ | refine sg ?_ | refine sh ?_ | refine su ?_ | refine sn1 ?_ | refine sn0 ?_ | refine And.intro (show imp none (gimp _ none) from trivial) ?_
      refine And.intro (fun h7 => ?_) (fun h7 => ?_)
      · have h7 : ((errG (gL L) != 0) || !((bs (textG (gL L))).toList == (bs s).toList)) = true := h7
        have hr : readT s = none := by
          refine readT_none fun g v e => ?_
          rw [hall g v e, v.err, bs_toList, bs_toList, e] at h7
          simp at h7
        obtain ⟨e1, e2⟩ := par_none h0 hr
        rw [e1, e2]
        exact zero_rGE rfl
      · have h7 : ((errG (gL L) != 0) || !((bs (textG (gL L))).toList == (bs s).toList)) = false := h7
        rw [Bool.or_eq_false_iff, bs_toList, bs_toList] at h7
        have hv : GVal (gL L) := GVal.of (by simpa using h7.1)
        have ht : textG (gL L) = s := by simpa using h7.2
        have hr : readT s = some (gL L) := by rw [← ht]; exact readT_text hv
        have e0 : decide (s.length > 20000) = false := by simpa using h0
        rw [show parG s = gL L by unfold parG; rw [e0, hr]; rfl, show parE s = 0 by unfold parE; rw [e0, hr]; rfl]
        refine ex.sound (rc := []) tab_ok mix href _ ?_
        exact SubR.refl _
end Go.Ch

/- The reference's Parse. -/
namespace Go.Ch
open Go Go.Ax Go.Proofs Go.Proofs.Tryz
set_option maxRecDepth 100000
set_option pp.maxSteps 400
set_option maxHeartbeats 1000000

def rdR (w : List UInt8) : Option Int := bif w == [45] then some 30000 else bif (numV w).1 == 30000 then none else bif (numV w).2 then some (numV w).1 else none
theorem rdR_wrd {n : Int} (h : n.natAbs < 100000000) : rdR (wrd n) = some n := by
  unfold wrd
  cases hn : n == 30000 with
  | true =>
    obtain rfl : n = 30000 := by simpa using hn
    rfl
  | false =>
    unfold rdR
    rw [cond_false, itoa_dash, numV_itoa h]
    simp only [cond_false, hn, cond_true]
theorem lines_of {s : List UInt8} {g : Grid} (v : GVal g) (h : textG g = s) :
    (cutL 10 s).length = g.rows.toNat + 2 ∧ (cutL 10 s).getD 0 [] = headT g 5 ∧ ∀ i, 1 ≤ i → i < g.rows.toNat + 1 → (cutL 10 s).getD i [] = lineG g (i - 1) := by
  rw [← h, cut_text v]
  refine ⟨by simp, rfl, fun i h1 h2 => ?_⟩
  match i, h1 with
  | i + 1, _ =>
    have h3 : i < g.rows.toNat := by omega
    rw [List.getD_eq_getElem?_getD, List.cons_append, List.getElem?_cons_succ, List.getElem?_append_left (by simpa using h3)]
    simp [h3]
theorem head_word {g : Grid} {i : Nat} (h : i < 5) : (headW g).getD (i + 1) [] = Lib.itoa ((hd g).getD i 0) := by
  match i, h with
  | 0, _ => rfl
  | 1, _ => rfl
  | 2, _ => rfl
  | 3, _ => rfl
  | 4, _ => rfl
theorem line_word {g : Grid} (v : GVal g) {r k : Nat} (hk : k < g.cols.toNat) : (cutL 32 (lineG g r)).length = g.cols.toNat ∧ (cutL 32 (lineG g r)).getD k [] = wrd (g.levels.getD (r * g.cols.toNat + k) 0) := by
  rw [cut_line v.cols.1]
  refine ⟨by simp, ?_⟩
  simp [List.getD, hk, rowW]
/-- Behind k words of line i. -/
def LI (s : List UInt8) (i k : Nat) (L : List Int) : Prop := L.length ≤ (i - 1) * 100001 + k ∧ ∀ g, GVal g → textG g = s → L = g.levels.take ((i - 1) * g.cols.toNat + k)
theorem lev_at {s : List UInt8} {g : Grid} (v : GVal g) (h : textG g = s) {i k : Nat} (hi : 1 ≤ i) (hi2 : i + 1 < (cutL 10 s).length) (hk : k < (cutL 32 ((cutL 10 s).getD i [])).length) :
    (i - 1) * g.cols.toNat + k < g.levels.length ∧ rdR ((cutL 32 ((cutL 10 s).getD i [])).getD k []) = some (g.levels.getD ((i - 1) * g.cols.toNat + k) 0) := by
  obtain ⟨a1, a2, a3⟩ := lines_of v h
  rw [a1] at hi2
  rw [a3 i hi (by omega)] at hk ⊢
  have hc : (cutL 32 (lineG g (i - 1))).length = g.cols.toNat := by rw [cut_line v.cols.1]; simp
  rw [hc] at hk
  obtain ⟨_, b2⟩ := line_word v (r := i - 1) hk
  have hlt : (i - 1) * g.cols.toNat + k < g.levels.length := by
    rw [v.count]
    have : (i - 1 + 1) * g.cols.toNat ≤ g.rows.toNat * g.cols.toNat := Nat.mul_le_mul_right _ (by omega)
    rw [Nat.add_mul] at this
    omega
  exact ⟨hlt, by rw [b2]; exact rdR_wrd (lev_small v hlt)⟩
theorem LI.next {s : List UInt8} {i k : Nat} {L : List Int} {n : Int} (h : LI s i k L) (hi : 1 ≤ i) (hi2 : i + 1 < (cutL 10 s).length) (hk : k < (cutL 32 ((cutL 10 s).getD i [])).length) (hn : rdR ((cutL 32 ((cutL 10 s).getD i [])).getD k []) = some n) : LI s i (k + 1) (L ++ [n]) := by
  obtain ⟨h1, h2⟩ := h
  refine ⟨by simp only [List.length_append, List.length_cons, List.length_nil]; omega, fun g v e => ?_⟩
  obtain ⟨b1, b2⟩ := lev_at v e hi hi2 hk
  rw [hn] at b2
  rw [h2 g v e, ← Nat.add_assoc, List.take_add_one, List.getElem?_eq_getElem b1, Option.some.inj b2]
  simp [List.getD, b1]
theorem LI.none {s : List UInt8} {i k : Nat} (hi : 1 ≤ i) (hi2 : i + 1 < (cutL 10 s).length) (hk : k < (cutL 32 ((cutL 10 s).getD i [])).length) (hn : rdR ((cutL 32 ((cutL 10 s).getD i [])).getD k []) = none) : readT s = none := by
  refine readT_none fun g v e => ?_
  obtain ⟨_, b2⟩ := lev_at v e hi hi2 hk
  rw [hn] at b2; cases b2
theorem LI.line {s : List UInt8} {i k : Nat} {L : List Int} (h : LI s i k L) (hs : s.length ≤ 100000) (hi : 1 ≤ i) (hi2 : i + 1 < (cutL 10 s).length) (hk : k = (cutL 32 ((cutL 10 s).getD i [])).length) : LI s (i + 1) 0 L := by
  obtain ⟨h1, h2⟩ := h
  have hl : k ≤ 100001 := by
    have := (cutL_len 32 ((cutL 10 s).getD i [])).2
    have hm : (cutL 10 s).getD i [] ∈ cutL 10 s := by
      rw [List.getD_eq_getElem?_getD, List.getElem?_eq_getElem (by omega)]; exact List.getElem_mem _
    have := cutL_elem hm
    omega
  have hm2 : (i + 1 - 1) * 100001 + 0 = (i - 1) * 100001 + 100001 := by
    rw [show i + 1 - 1 = (i - 1) + 1 by omega, Nat.add_mul, Nat.one_mul, Nat.add_zero]
  refine ⟨?_, fun g v e => ?_⟩
  · rw [hm2]
    exact Nat.le_trans h1 (Nat.add_le_add_left hl _)
  obtain ⟨a1, a2, a3⟩ := lines_of v e
  rw [a1] at hi2
  rw [a3 i hi (by omega), cut_line v.cols.1] at hk
  simp at hk
  have := h2 g v e
  rw [this, hk]
  congr 1
  have : (i - 1 + 1) * g.cols.toNat = (i - 1) * g.cols.toNat + g.cols.toNat := by rw [Nat.add_mul]; omega
  rw [show i + 1 - 1 = i - 1 + 1 by omega, this]; rfl
abbrev rGB (g : Grid) (b : Bool) : AV := .t [.g [.d (dI g.x), .d (dI g.y), .d (dI g.side), .d (dI g.cols), .d (dI g.rows), .d (dInts g.levels)], .s (.d (.val (.bool b)))]
theorem zero_rGB {b : Bool} (h : b = false) : SubR (.t [.g (zvs ty24.zero), .s (.d (.lit false))]) (rGB zeroG b) := by
  subst h
  exact SubR.t ⟨⟨LeD.refl _, LeD.refl _, LeD.refl _, LeD.refl _, LeD.refl _, LeD.nil, trivial⟩, fun _ _ h => h, trivial⟩
def fG (f : Nat → Int) (L : List Int) : Grid := ⟨f 0, f 1, f 2, f 3, f 4, L⟩
theorem RParse (s : List UInt8) (hs : s.length ≤ 100000) : CallP Tryz.prog 13 [vT s] (rGB ((readT s).getD zeroG) (readT s).isSome) := by
  refine callP_of_ex (rc := []) (N := 115) Tryz.func13 rfl rfl Tryz.call13 tab_ok mix rfl rfl (fun cx href => ?_)
  obtain ⟨l1, l2⟩ := cutL_len 10 s
  have l3 := List.length_pos_iff.2 l1
  have hno : readT s = none → SubR (.t [.g (zvs ty24.zero), .s (.d (.lit false))]) (rGB ((readT s).getD zeroG) (readT s).isSome) := by
    intro h; rw [h]; exact zero_rGB rfl
  have hln : ∀ i, i < (cutL 10 s).length → ((cutL 10 s).getD i []).length ≤ s.length := by
    intro i hi
    rw [List.getD_eq_getElem?_getD, List.getElem?_eq_getElem hi]
    exact cutL_elem (List.getElem_mem hi)
  have hl0 := hln 0 l3
  refine callN (Cut s 10 hs) ?_
  refine oi (show 0 ≤ (0 : Int) ∧ (0 : Int) < ((cutL 10 s).length : Int) by omega) ?_
  refine callN (Cut ((cutL 10 s).getD 0 []) 32 (by omega)) ?_
  repeat first | refine sk ?_ | refine st ?_ | refine sg ?_ | refine sh ?_ | refine su ?_ | refine sn1 ?_ | refine sn0 ?_ | refine And.intro (show imp none (gimp _ none) from trivial) ?_
  refine And.intro (fun hg => ?_) ?_
  · have hg : (!((((cutL 32 ((cutL 10 s).getD 0 [])).length : Int)) != 6)) = true := hg
    have hg' : ((cutL 32 ((cutL 10 s).getD 0 [])).length : Int) = 6 := by
      cases hx : (((cutL 32 ((cutL 10 s).getD 0 [])).length : Int)) != 6 with
      | true => rw [hx] at hg; cases hg
      | false => simpa using hx
    exact ⟨by decide, show (0 : Int) < ((cutL 32 ((cutL 10 s).getD 0 [])).length : Int) by rw [hg']; decide⟩
  repeat first | refine sk ?_ | refine st ?_ | refine sg ?_ | refine sh ?_ | refine su ?_ | refine sn1 ?_ | refine sn0 ?_ | refine And.intro (show imp none (gimp _ none) from trivial) ?_
  have hH : ∀ g, GVal g → textG g = s → cutL 32 ((cutL 10 s).getD 0 []) = headW g := by
    intro g v e
    obtain ⟨_, a2, _⟩ := lines_of v e
    rw [a2, cut_head]
  have hHe : ∀ w, w ∈ cutL 32 ((cutL 10 s).getD 0 []) → w.length ≤ s.length := fun w h => Nat.le_trans (cutL_elem h) hl0
  generalize cutL 32 ((cutL 10 s).getD 0 []) = H at hH hHe ⊢
  refine And.intro (fun h => ?_) (fun h => ?_)
  · have h : (((H.length : Int) != 6) || !((bs (H.getD 0 [])).toList == (bs gridW).toList)) = true := h
    refine hno (readT_none fun g v e => ?_)
    rw [hH g v e, bs_toList, bs_toList] at h
    simp [headW] at h
  have h : (((H.length : Int) != 6) || !((bs (H.getD 0 [])).toList == (bs gridW).toList)) = false := h
  have h6 : H.length = 6 := by
    simp only [Bool.or_eq_false_iff, bne_eq_false_iff_eq] at h
    omega
  refine AW.loopI (fun q : Nat × (Nat → Int) => ⟨[(0, vT s), (2, .s (.ptr 2 0)), (4, .s (.d (dTs (cutL 10 s)))), (5, .s (.d (dTs H))), (6, .s (.ptr 6 0)), (7, vI q.1)],
      [(2, some (.cells (zvs ty24.zero))), (6, some (.cells [.d (dI (q.2 0)), .d (dI (q.2 1)), .d (dI (q.2 2)), .d (dI (q.2 3)), .d (dI (q.2 4))]))]⟩)
    (fun q => q.1 ≤ 5 ∧ ∀ g, GVal g → textG g = s → ∀ j, j < q.1 → q.2 j = (hd g).getD j 0) (fun q => 5 - q.1) (0, fun _ => 0) ⟨Nat.zero_le _, fun _ _ _ j hj => absurd hj (Nat.not_lt_zero j)⟩ ?_ ?_
  · exact SubI.of0 href [] rfl ⟨⟨rfl, LeBx.rfl⟩, ⟨rfl, LeBx.rfl⟩, trivial⟩ ⟨⟨rfl, LeQ.rfl⟩, ⟨rfl, LeQ.rfl⟩, ⟨rfl, LeQ.rfl⟩, ⟨rfl, LeQ.rfl⟩, ⟨rfl, LeQ.rfl⟩, ⟨rfl, LeQ.rfl⟩, trivial⟩
  · rintro ⟨i, f⟩ ⟨hi, hj⟩
    simp only at hi hj
    have key : ∀ g, GVal g → textG g = s → i < 5 → numV (H.getD (i + 1) []) = ((hd g).getD i 0, true) := by
      intro g v e h5
      rw [hH g v e, head_word h5]
      exact numV_itoa (hd_small v h5)
    match i, hi with
    | 0, _ =>
      refine ex.sound (rc := []) tab_ok mix href _ ?_
      refine And.intro (fun _ => ?_) (fun h => Bool.noConfusion (show true = false from h))
      refine oi (show 0 ≤ ((0 : Nat) : Int) + 1 ∧ ((0 : Nat) : Int) + 1 < (H.length : Int) by omega) ?_
      refine callN (Number (H.getD 1 [])) ?_
      refine And.intro (fun h2 => ?_) (fun h2 => ?_)
      · have h2 : (!(numV (H.getD 1 [])).2) = true := h2
        refine hno (readT_none fun g v e => ?_)
        rw [key g v e (by decide)] at h2
        cases h2
      · refine oi (show 0 ≤ ((0 : Nat) : Int) ∧ ((0 : Nat) : Int) < ((5 : Nat) : Int) by decide) ?_
        refine ⟨(1, fun j => if j = 0 then (numV (H.getD 1 [])).1 else f j), ⟨by simp, fun g v e j hj2 => ?_⟩, by simp, ?_⟩
        · simp only at hj2 ⊢
          by_cases hji : j = 0
          · rw [if_pos hji, key g v e (by decide), hji]
          · rw [if_neg hji]; exact hj g v e j (by omega)
        · exact SubI.of0 href [] rfl ⟨⟨rfl, LeBx.rfl⟩, ⟨rfl, LeBx.cells ⟨LeQ.rfl, LeQ.rfl, LeQ.rfl, LeQ.rfl, LeQ.rfl, trivial⟩⟩, trivial⟩ ⟨⟨rfl, LeQ.rfl⟩, ⟨rfl, LeQ.rfl⟩, ⟨rfl, LeQ.rfl⟩, ⟨rfl, LeQ.rfl⟩, ⟨rfl, LeQ.rfl⟩, ⟨rfl, LeQ.int (w64_of (show -9223372036854775808 ≤ ((0 : Nat) : Int) + 1 by decide) (show ((0 : Nat) : Int) + 1 ≤ 9223372036854775807 by decide))⟩, trivial⟩
    | 1, _ =>
      refine ex.sound (rc := []) tab_ok mix href _ ?_
      refine And.intro (fun _ => ?_) (fun h => Bool.noConfusion (show true = false from h))
      refine oi (show 0 ≤ ((1 : Nat) : Int) + 1 ∧ ((1 : Nat) : Int) + 1 < (H.length : Int) by omega) ?_
      refine callN (Number (H.getD 2 [])) ?_
      refine And.intro (fun h2 => ?_) (fun h2 => ?_)
      · have h2 : (!(numV (H.getD 2 [])).2) = true := h2
        refine hno (readT_none fun g v e => ?_)
        rw [key g v e (by decide)] at h2
        cases h2
      · refine oi (show 0 ≤ ((1 : Nat) : Int) ∧ ((1 : Nat) : Int) < ((5 : Nat) : Int) by decide) ?_
        refine ⟨(2, fun j => if j = 1 then (numV (H.getD 2 [])).1 else f j), ⟨by simp, fun g v e j hj2 => ?_⟩, by simp, ?_⟩
        · simp only at hj2 ⊢
          by_cases hji : j = 1
          · rw [if_pos hji, key g v e (by decide), hji]
          · rw [if_neg hji]; exact hj g v e j (by omega)
        · exact SubI.of0 href [] rfl ⟨⟨rfl, LeBx.rfl⟩, ⟨rfl, LeBx.cells ⟨LeQ.rfl, LeQ.rfl, LeQ.rfl, LeQ.rfl, LeQ.rfl, trivial⟩⟩, trivial⟩ ⟨⟨rfl, LeQ.rfl⟩, ⟨rfl, LeQ.rfl⟩, ⟨rfl, LeQ.rfl⟩, ⟨rfl, LeQ.rfl⟩, ⟨rfl, LeQ.rfl⟩, ⟨rfl, LeQ.int (w64_of (show -9223372036854775808 ≤ ((1 : Nat) : Int) + 1 by decide) (show ((1 : Nat) : Int) + 1 ≤ 9223372036854775807 by decide))⟩, trivial⟩
    | 2, _ =>
      refine ex.sound (rc := []) tab_ok mix href _ ?_
      refine And.intro (fun _ => ?_) (fun h => Bool.noConfusion (show true = false from h))
      refine oi (show 0 ≤ ((2 : Nat) : Int) + 1 ∧ ((2 : Nat) : Int) + 1 < (H.length : Int) by omega) ?_
      refine callN (Number (H.getD 3 [])) ?_
      refine And.intro (fun h2 => ?_) (fun h2 => ?_)
      · have h2 : (!(numV (H.getD 3 [])).2) = true := h2
        refine hno (readT_none fun g v e => ?_)
        rw [key g v e (by decide)] at h2
        cases h2
      · refine oi (show 0 ≤ ((2 : Nat) : Int) ∧ ((2 : Nat) : Int) < ((5 : Nat) : Int) by decide) ?_
        refine ⟨(3, fun j => if j = 2 then (numV (H.getD 3 [])).1 else f j), ⟨by simp, fun g v e j hj2 => ?_⟩, by simp, ?_⟩
        · simp only at hj2 ⊢
          by_cases hji : j = 2
          · rw [if_pos hji, key g v e (by decide), hji]
          · rw [if_neg hji]; exact hj g v e j (by omega)
        · exact SubI.of0 href [] rfl ⟨⟨rfl, LeBx.rfl⟩, ⟨rfl, LeBx.cells ⟨LeQ.rfl, LeQ.rfl, LeQ.rfl, LeQ.rfl, LeQ.rfl, trivial⟩⟩, trivial⟩ ⟨⟨rfl, LeQ.rfl⟩, ⟨rfl, LeQ.rfl⟩, ⟨rfl, LeQ.rfl⟩, ⟨rfl, LeQ.rfl⟩, ⟨rfl, LeQ.rfl⟩, ⟨rfl, LeQ.int (w64_of (show -9223372036854775808 ≤ ((2 : Nat) : Int) + 1 by decide) (show ((2 : Nat) : Int) + 1 ≤ 9223372036854775807 by decide))⟩, trivial⟩
    | 3, _ =>
      refine ex.sound (rc := []) tab_ok mix href _ ?_
      refine And.intro (fun _ => ?_) (fun h => Bool.noConfusion (show true = false from h))
      refine oi (show 0 ≤ ((3 : Nat) : Int) + 1 ∧ ((3 : Nat) : Int) + 1 < (H.length : Int) by omega) ?_
      refine callN (Number (H.getD 4 [])) ?_
      refine And.intro (fun h2 => ?_) (fun h2 => ?_)
      · have h2 : (!(numV (H.getD 4 [])).2) = true := h2
        refine hno (readT_none fun g v e => ?_)
        rw [key g v e (by decide)] at h2
        cases h2
      · refine oi (show 0 ≤ ((3 : Nat) : Int) ∧ ((3 : Nat) : Int) < ((5 : Nat) : Int) by decide) ?_
        refine ⟨(4, fun j => if j = 3 then (numV (H.getD 4 [])).1 else f j), ⟨by simp, fun g v e j hj2 => ?_⟩, by simp, ?_⟩
        · simp only at hj2 ⊢
          by_cases hji : j = 3
          · rw [if_pos hji, key g v e (by decide), hji]
          · rw [if_neg hji]; exact hj g v e j (by omega)
        · exact SubI.of0 href [] rfl ⟨⟨rfl, LeBx.rfl⟩, ⟨rfl, LeBx.cells ⟨LeQ.rfl, LeQ.rfl, LeQ.rfl, LeQ.rfl, LeQ.rfl, trivial⟩⟩, trivial⟩ ⟨⟨rfl, LeQ.rfl⟩, ⟨rfl, LeQ.rfl⟩, ⟨rfl, LeQ.rfl⟩, ⟨rfl, LeQ.rfl⟩, ⟨rfl, LeQ.rfl⟩, ⟨rfl, LeQ.int (w64_of (show -9223372036854775808 ≤ ((3 : Nat) : Int) + 1 by decide) (show ((3 : Nat) : Int) + 1 ≤ 9223372036854775807 by decide))⟩, trivial⟩
    | 4, _ =>
      refine ex.sound (rc := []) tab_ok mix href _ ?_
      refine And.intro (fun _ => ?_) (fun h => Bool.noConfusion (show true = false from h))
      refine oi (show 0 ≤ ((4 : Nat) : Int) + 1 ∧ ((4 : Nat) : Int) + 1 < (H.length : Int) by omega) ?_
      refine callN (Number (H.getD 5 [])) ?_
      refine And.intro (fun h2 => ?_) (fun h2 => ?_)
      · have h2 : (!(numV (H.getD 5 [])).2) = true := h2
        refine hno (readT_none fun g v e => ?_)
        rw [key g v e (by decide)] at h2
        cases h2
      · refine oi (show 0 ≤ ((4 : Nat) : Int) ∧ ((4 : Nat) : Int) < ((5 : Nat) : Int) by decide) ?_
        refine ⟨(5, fun j => if j = 4 then (numV (H.getD 5 [])).1 else f j), ⟨by simp, fun g v e j hj2 => ?_⟩, by simp, ?_⟩
        · simp only at hj2 ⊢
          by_cases hji : j = 4
          · rw [if_pos hji, key g v e (by decide), hji]
          · rw [if_neg hji]; exact hj g v e j (by omega)
        · exact SubI.of0 href [] rfl ⟨⟨rfl, LeBx.rfl⟩, ⟨rfl, LeBx.cells ⟨LeQ.rfl, LeQ.rfl, LeQ.rfl, LeQ.rfl, LeQ.rfl, trivial⟩⟩, trivial⟩ ⟨⟨rfl, LeQ.rfl⟩, ⟨rfl, LeQ.rfl⟩, ⟨rfl, LeQ.rfl⟩, ⟨rfl, LeQ.rfl⟩, ⟨rfl, LeQ.rfl⟩, ⟨rfl, LeQ.int (w64_of (show -9223372036854775808 ≤ ((4 : Nat) : Int) + 1 by decide) (show ((4 : Nat) : Int) + 1 ≤ 9223372036854775807 by decide))⟩, trivial⟩
    | 5, _ =>
      refine ex.sound (rc := []) tab_ok mix href _ ?_
      refine And.intro (fun h => ?_) (fun h => ?_)
      · exact Bool.noConfusion (show false = true from h)
      have hp1 := @LI.next s
      have hp2 := @LI.none s
      have hp3 := @LI.line s
      have hlo := @lines_of s
      refine oi (show 0 ≤ (0 : Int) ∧ (0 : Int) < ((5 : Nat) : Int) by decide) ?_
      refine oi (show 0 ≤ (1 : Int) ∧ (1 : Int) < ((5 : Nat) : Int) by decide) ?_
      refine oi (show 0 ≤ (2 : Int) ∧ (2 : Int) < ((5 : Nat) : Int) by decide) ?_
      refine oi (show 0 ≤ (3 : Int) ∧ (3 : Int) < ((5 : Nat) : Int) by decide) ?_
      refine oi (show 0 ≤ (4 : Int) ∧ (4 : Int) < ((5 : Nat) : Int) by decide) ?_
      refine AW.loopI (fun q : Nat × List Int => ⟨[(0, vT s), (2, .s (.ptr 2 0)), (4, .s (.d (dTs (cutL 10 s)))), (10, .s (.ptr 10 0)), (11, vI q.1)],
          [(2, some (.cells (zvs ty24.zero))), (10, some (.cells [.d (dI (f 0)), .d (dI (f 1)), .d (dI (f 2)), .d (dI (f 3)), .d (dI (f 4)), .mo q.2.isEmpty 100])), (100, some (.mrow 3 q.2.length 1 (intEl q.2)))]⟩)
        (fun q => 1 ≤ q.1 ∧ q.1 ≤ (cutL 10 s).length ∧ ((cutL 10 s).length = 1 ∨ q.1 + 1 ≤ (cutL 10 s).length) ∧ LI s q.1 0 q.2) (fun q => (cutL 10 s).length - q.1) (1, []) ⟨Nat.le_refl _, l3, by simp only; omega, by simp, fun _ _ _ => by simp⟩ ?_ ?_
      · exact SubI.of0 href [] rfl ⟨⟨rfl, LeBx.rfl⟩, ⟨rfl, LeBx.cells ⟨LeQ.rfl, LeQ.rfl, LeQ.rfl, LeQ.rfl, LeQ.rfl, LeQ.nil rfl, trivial⟩⟩, ⟨rfl, rfl⟩, trivial⟩ ⟨⟨rfl, LeQ.rfl⟩, ⟨rfl, LeQ.rfl⟩, ⟨rfl, LeQ.rfl⟩, ⟨rfl, LeQ.rfl⟩, ⟨rfl, LeQ.rfl⟩, trivial⟩
      · rintro ⟨i, L⟩ ⟨i1, i2, i3, hLI⟩
        simp only at i1 i2 i3 hLI
        have eN : w64 (((cutL 10 s).length : Int) - 1) = ((cutL 10 s).length : Int) - 1 := w64_of (by omega) (by omega)
        refine ex.sound (rc := []) tab_ok mix href _ ?_
        refine And.intro (fun h => ?_) (fun h => ?_)
        · have h : (i : Int) < w64 (((cutL 10 s).length : Int) - 1) := decT h
          rw [eN] at h
          have hi2 : i + 1 < (cutL 10 s).length := by omega
          have hli := hln i (by omega)
          refine oi (show 0 ≤ (i : Int) ∧ (i : Int) < ((cutL 10 s).length : Int) by omega) ?_
          refine callN (Cut ((cutL 10 s).getD i []) 32 (by omega)) ?_
          have hkl := (cutL_len 32 ((cutL 10 s).getD i [])).2
          have hp1 := fun k L n => @hp1 i k L n
          have hp2 := fun k => @hp2 i k
          have hp3 := fun k L => @hp3 i k L
          generalize cutL 32 ((cutL 10 s).getD i []) = K at hkl hp1 hp2 hp3 ⊢
          refine AW.loopI (fun q : Nat × List Int => ⟨[(0, vT s), (2, .s (.ptr 2 0)), (4, .s (.d (dTs (cutL 10 s)))), (10, .s (.ptr 10 0)), (11, vI i), (12, .s (.d (dTs K))), (13, vI q.1)],
              [(2, some (.cells (zvs ty24.zero))), (10, some (.cells [.d (dI (f 0)), .d (dI (f 1)), .d (dI (f 2)), .d (dI (f 3)), .d (dI (f 4)), .mo q.2.isEmpty 100])), (100, some (.mrow 3 q.2.length 1 (intEl q.2)))]⟩)
            (fun q => q.1 ≤ K.length ∧ LI s i q.1 q.2) (fun q => K.length - q.1) (0, L) ⟨Nat.zero_le _, hLI⟩ ?_ ?_
          · exact SubI.of0 href [] rfl ⟨⟨rfl, LeBx.rfl⟩, ⟨rfl, LeBx.rfl⟩, ⟨rfl, LeBx.rfl⟩, trivial⟩ ⟨⟨rfl, LeQ.rfl⟩, ⟨rfl, LeQ.rfl⟩, ⟨rfl, LeQ.rfl⟩, ⟨rfl, LeQ.rfl⟩, ⟨rfl, LeQ.rfl⟩, ⟨rfl, LeQ.rfl⟩, ⟨rfl, LeQ.rfl⟩, trivial⟩
          · rintro ⟨k, L⟩ ⟨k1, hLI⟩
            simp only at k1 hLI
            refine ex.sound (rc := []) tab_ok mix href _ ?_
            refine And.intro (fun h => ?_) (fun h => ?_)
            · have h : (k : Int) < (K.length : Int) := decT h
              have hk : k < K.length := by omega
              have hb : 0 ≤ (k : Int) ∧ (k : Int) < (K.length : Int) := by omega
              have hLl : L.length ≤ 20000000000 := by
                have := hLI.1
                have : (i - 1) * 100001 ≤ 100001 * 100001 := Nat.mul_le_mul_right _ (by omega)
                omega
              refine oi hb ?_
              refine callN (Number (K.getD k [])) ?_
              refine oi hb ?_
              have hrd : rdR (K.getD k []) = bif K.getD k [] == [45] then some 30000 else bif (numV (K.getD k [])).1 == 30000 then none else bif (numV (K.getD k [])).2 then some (numV (K.getD k [])).1 else none := rfl
              refine And.intro (fun h2 => ?_) (fun h2 => ?_)
              · have h2 : ((bs (K.getD k [])).toList == (bs [45]).toList) = true := h2
                rw [bs_toList, bs_toList] at h2
                rw [h2, cond_true] at hrd
                refine ob (Nat.zero_lt_one) ?_
                refine ob (show ((bif L.isEmpty then 0 else L.length) + 1) * 8 ≤ 140737488355328 by rw [bif_len]; omega) ?_
                refine ob (fit1 (lt1 rfl)) ?_
                refine ⟨(k + 1, L ++ [30000]), ⟨by simp only; omega, hp1 k L _ hLI i1 hi2 hk hrd⟩, by simp only; omega, ?_⟩
                exact SubI.of0 href [(100, 102)] rfl ⟨⟨rfl, LeBx.rfl⟩, ⟨rfl, LeBx.cells ⟨LeQ.rfl, LeQ.rfl, LeQ.rfl, LeQ.rfl, LeQ.rfl, LeQ.mo (isEmpty_snoc _ _), trivial⟩⟩, ⟨rfl, RowIs.mrow (el := fun x _ => dI x) (RowIs.snoc intRow (lt1 rfl))⟩, trivial⟩ ⟨⟨rfl, LeQ.rfl⟩, ⟨rfl, LeQ.rfl⟩, ⟨rfl, LeQ.rfl⟩, ⟨rfl, LeQ.rfl⟩, ⟨rfl, LeQ.rfl⟩, ⟨rfl, LeQ.rfl⟩, ⟨rfl, LeQ.int (w64_of (by simp only; omega) (by simp only; omega))⟩, trivial⟩
              · have h2 : ((bs (K.getD k [])).toList == (bs [45]).toList) = false := h2
                rw [bs_toList, bs_toList] at h2
                rw [h2, cond_false] at hrd
                refine And.intro (fun h4 => ?_) (fun h4 => ?_)
                · have h4 : ((numV (K.getD k [])).1 == 30000) = true := h4
                  rw [h4, cond_true] at hrd
                  exact hno (hp2 k i1 hi2 hk hrd)
                · have h4 : ((numV (K.getD k [])).1 == 30000) = false := h4
                  rw [h4, cond_false] at hrd
                  refine And.intro (fun h5 => ?_) (fun h5 => ?_)
                  · have h5 : (!(numV (K.getD k [])).2) = true := h5
                    rw [show (numV (K.getD k [])).2 = false by simpa using h5] at hrd
                    exact hno (hp2 k i1 hi2 hk hrd)
                  · have h5 : (!(numV (K.getD k [])).2) = false := h5
                    rw [show (numV (K.getD k [])).2 = true by simpa using h5, cond_true] at hrd
                    refine ob (Nat.zero_lt_one) ?_
                    refine ob (show ((bif L.isEmpty then 0 else L.length) + 1) * 8 ≤ 140737488355328 by rw [bif_len]; omega) ?_
                    refine ob (fit1 (lt1 rfl)) ?_
                    refine ⟨(k + 1, L ++ [(numV (K.getD k [])).1]), ⟨by simp only; omega, hp1 k L _ hLI i1 hi2 hk hrd⟩, by simp only; omega, ?_⟩
                    exact SubI.of0 href [(100, 102)] rfl ⟨⟨rfl, LeBx.rfl⟩, ⟨rfl, LeBx.cells ⟨LeQ.rfl, LeQ.rfl, LeQ.rfl, LeQ.rfl, LeQ.rfl, LeQ.mo (isEmpty_snoc _ _), trivial⟩⟩, ⟨rfl, RowIs.mrow (el := fun x _ => dI x) (RowIs.snoc intRow (lt1 rfl))⟩, trivial⟩ ⟨⟨rfl, LeQ.rfl⟩, ⟨rfl, LeQ.rfl⟩, ⟨rfl, LeQ.rfl⟩, ⟨rfl, LeQ.rfl⟩, ⟨rfl, LeQ.rfl⟩, ⟨rfl, LeQ.rfl⟩, ⟨rfl, LeQ.int (w64_of (by simp only; omega) (by simp only; omega))⟩, trivial⟩
            · have h : ¬ (k : Int) < (K.length : Int) := decF h
              have hk : k = K.length := by omega
              have hN := hp3 k L hLI hs i1 hi2 hk
              refine ⟨(i + 1, L), ⟨by simp only; omega, by simp only; omega, by simp only; omega, hN⟩, by simp only; omega, ?_⟩
              exact SubI.of0 href [] rfl ⟨⟨rfl, LeBx.rfl⟩, ⟨rfl, LeBx.rfl⟩, ⟨rfl, LeBx.rfl⟩, trivial⟩ ⟨⟨rfl, LeQ.rfl⟩, ⟨rfl, LeQ.rfl⟩, ⟨rfl, LeQ.rfl⟩, ⟨rfl, LeQ.rfl⟩, ⟨rfl, LeQ.int (w64_of (by omega) (by omega))⟩, trivial⟩
        · have h : ¬ (i : Int) < w64 (((cutL 10 s).length : Int) - 1) := decF h
          rw [eN] at h
          have hLl : L.length ≤ 20000000000 := by
            have := hLI.1
            have : (i - 1) * 100001 ≤ 100001 * 100001 := Nat.mul_le_mul_right _ (by omega)
            omega
          have hdl : (fG f L).levels.length ≤ 9223372036854775807 := by show L.length ≤ _; omega
          have hall : ∀ g, GVal g → textG g = s → fG f L = g := by
            intro g v e
            obtain ⟨a1, _, _⟩ := hlo v e
            have h1 := hLI.2 g v e
            rw [show i - 1 = g.rows.toNat by omega, Nat.add_zero, ← v.count, List.take_length] at h1
            have hf := hj g v e
            have f0 := hf 0 (by decide); have f1 := hf 1 (by decide); have f2 := hf 2 (by decide); have f3 := hf 3 (by decide); have f4 := hf 4 (by decide)
            unfold fG
            rw [h1, f0, f1, f2, f3, f4]; rfl
          have hle : LeAs [AV.g [.d (dI (f 0)), .d (dI (f 1)), .d (dI (f 2)), .d (dI (f 3)), .d (dI (f 4)), .d (.slc (bif L.isEmpty then 0 else L.length) 1 (intEl L))]] [grid (fG f L)] := ⟨⟨LeD.refl _, LeD.refl _, LeD.refl _, LeD.refl _, LeD.refl _, LeD.slc' (bif_len L) fun _ _ _ _ => LeD.refl _, trivial⟩, trivial⟩
          refine callN ((RCheck (fG f L) hdl).conv (args' := _) hle) ?_
          repeat first | refine sk ?_ | refine st ?_ | refine sg ?_ | refine sh ?_ | refine su ?_ | refine sn1 ?_ | refine sn0 ?_ | refine And.intro (show imp none (gimp _ none) from trivial) ?_
          have hpr : gpol false (errG (fG f L) != 0) = true → CallP Tryz.prog 10 [AV.g [.d (dI (f 0)), .d (dI (f 1)), .d (dI (f 2)), .d (dI (f 3)), .d (dI (f 4)), .d (.slc (bif L.isEmpty then 0 else L.length) 1 (intEl L))]] (vT (textG (fG f L))) := by
            intro hb
            refine (RPrint (fG f L) (GVal.of ?_)).conv (args' := _) hle
            cases hx : errG (fG f L) != 0 with
            | false => simpa using hx
            | true => rw [hx] at hb; cases hb
          refine callGo hpr ?_
          repeat first | refine sk ?_ | refine st ?_ | refine sg ?_ | refine sh ?_ | refine su ?_ | refine sn1 ?_ | refine sn0 ?_ | refine And.intro (show imp none (gimp _ none) from trivial) ?_
          refine And.intro (fun h7 => ?_) (fun h7 => ?_)
          · have h7 : ((errG (fG f L) != 0) || !((bs (textG (fG f L))).toList == (bs s).toList)) = true := h7
            refine hno (readT_none fun g v e => ?_)
            rw [hall g v e, v.err, bs_toList, bs_toList, e] at h7
            simp at h7
          · have h7 : ((errG (fG f L) != 0) || !((bs (textG (fG f L))).toList == (bs s).toList)) = false := h7
            rw [Bool.or_eq_false_iff, bs_toList, bs_toList] at h7
            have hv : GVal (fG f L) := GVal.of (by simpa using h7.1)
            have ht : textG (fG f L) = s := by simpa using h7.2
            have hr : readT s = some (fG f L) := by rw [← ht]; exact readT_text hv
            rw [hr]
            exact SubR.t ⟨⟨LeD.refl _, LeD.refl _, LeD.refl _, LeD.refl _, LeD.refl _, LeD.slc' (bif_len L) fun _ _ _ _ => LeD.refl _, trivial⟩, fun _ _ h => h, trivial⟩
end Go.Ch

/- BedTexts: the law's own function. -/
namespace Go.Ch
open Go Go.Ax Go.Proofs Go.Proofs.Tryz
set_option maxRecDepth 100000
set_option pp.maxSteps 400
set_option maxHeartbeats 1000000

theorem par_text {g : Grid} (v : GVal g) : parG (textG g) = g ∧ parE (textG g) = 0 := by
  have hm := midT_len v (Nat.le_refl g.levels.length)
  have hn := v.n
  have hl : ¬ (textG g).length > 20000 := by
    show ¬ (midT g g.levels.length).length > 20000
    omega
  unfold parG parE
  rw [readT_text v, show decide ((textG g).length > 20000) = false by simpa using hl]
  exact ⟨rfl, rfl⟩
attribute [local irreducible] errG few in
theorem Law (g : Grid) (s : List UInt8) (hl : g.levels.length ≤ 9223372036854775807) : CallP Tryz.prog 3 [grid g, vT s] (vB true) := by
  refine callP_of_aw (N := 107) Tryz.func3 rfl rfl Tryz.call3 tab_ok rfl rfl (fun cx href => ?_)
  refine AW.seq (ex.sound (rc := []) tab_ok mix href _ ?_)
  refine AW.seq (ex.sound (rc := []) tab_ok mix href _ ?_)
  refine callN bawake ?_
  refine And.intro (fun h => Bool.noConfusion (show false = true from h)) (fun _ => ?_)
  refine AW.seq (ex.sound (rc := []) tab_ok mix href _ ?_)
  refine callN (Few g hl) ?_
  repeat first | refine sk ?_ | refine st ?_ | refine sg ?_ | refine sh ?_ | refine su ?_ | refine sn1 ?_ | refine sn0 ?_ | refine And.intro (show imp none (gimp _ none) from trivial) ?_
  refine And.intro (fun h => ?_) (fun h => ?_)
  · exact SubR.lit rfl
  have h : ((!(few g) || (decide (((bs s).size : Int) > 400) && decide (((bs s).size : Int) ≤ 20000))) || decide (((bs s).size : Int) > 20100)) = false := h
  rw [bs_size] at h
  simp only [Bool.or_eq_false_iff, decide_eq_false_iff_not, Bool.not_eq_false'] at h
  obtain ⟨⟨hf, hm⟩, hx⟩ := h
  have hgl := few_len hf
  have hs : s.length ≤ 100000 := by omega
  refine AW.seq (ex.sound (rc := []) tab_ok mix href _ ?_)
  refine callN (BPrint g hl) ?_
  refine AW.cut (σ' := ⟨[(1, vT s), (2, .s (.ptr 2 0))], [(2, some (gridB g))]⟩) (ex.sound (rc := []) tab_ok mix href _ ?_) ?_
  · refine callN (RCheck g hl) ?_
    refine And.intro (fun h => ?_) (fun h => ?_)
    · have h : (errG g != 0) = true := h
      have hp : prT g = [] := by unfold prT; rw [h]; rfl
      rw [hp]
      repeat first | refine sk ?_ | refine st ?_ | refine sg ?_ | refine sh ?_ | refine su ?_ | refine sn1 ?_ | refine sn0 ?_ | refine And.intro (show imp none (gimp _ none) from trivial) ?_
      refine And.intro (fun h2 => ?_) (fun h2 => ?_)
      · have h2 : ((errG g != errG g) || !((bs []).toList == (bs []).toList)) = true := h2
        simp at h2
      · exact ⟨rfl, SubI.of0 href [] rfl ⟨⟨rfl, LeBx.rfl⟩, trivial⟩ ⟨⟨rfl, LeQ.rfl⟩, ⟨rfl, LeQ.rfl⟩, trivial⟩⟩
    · have h : (errG g != 0) = false := h
      have he : errG g = 0 := by simpa using h
      have v := GVal.of he
      have hp : prT g = textG g := by unfold prT; rw [h]; rfl
      have hml := midT_len v (Nat.le_refl g.levels.length)
      have hn := v.n
      obtain ⟨q1, q2⟩ := par_text v
      have hb := BParse (textG g) (by show (midT g g.levels.length).length ≤ _; omega)
      rw [q1, q2] at hb
      rw [hp]
      refine callN hb ?_
      repeat first | refine sk ?_ | refine st ?_ | refine sg ?_ | refine sh ?_ | refine su ?_ | refine sn1 ?_ | refine sn0 ?_ | refine And.intro (show imp none (gimp _ none) from trivial) ?_
      refine callG (RPrint g v) ?_
      repeat first | refine sk ?_ | refine st ?_ | refine sg ?_ | refine sh ?_ | refine su ?_ | refine sn1 ?_ | refine sn0 ?_ | refine And.intro (show imp none (gimp _ none) from trivial) ?_
      refine callG (rSame g (by omega)) ?_
      repeat first | refine sk ?_ | refine st ?_ | refine sg ?_ | refine sh ?_ | refine su ?_ | refine sn1 ?_ | refine sn0 ?_ | refine And.intro (show imp none (gimp _ none) from trivial) ?_
      refine And.intro (fun h2 => ?_) (fun h2 => ?_)
      · have h2 : ((((errG g != 0) || !((bs (textG g)).toList == (bs (textG g)).toList)) || ((0 : Int) != 0)) || !true) = true := h2
        rw [h] at h2
        simp at h2
      · exact ⟨rfl, SubI.of0 href [] rfl ⟨⟨rfl, LeBx.rfl⟩, trivial⟩ ⟨⟨rfl, LeQ.rfl⟩, ⟨rfl, LeQ.rfl⟩, trivial⟩⟩
  · have hb := BParse s hs
    have hr := RParse s hs
    refine AW.seq (ex.sound (rc := []) tab_ok mix href _ ?_)
    by_cases hbig : s.length > 20000
    · have e1 : parG s = zeroG := by unfold parG; rw [show decide (s.length > 20000) = true by simpa using hbig]; rfl
      have e2 : parE s = 8 := by unfold parE; rw [show decide (s.length > 20000) = true by simpa using hbig]; rfl
      rw [e1, e2] at hb
      refine callN hb ?_
      refine AW.seq (ex.sound (rc := []) tab_ok mix href _ ?_)
      refine And.intro (fun h2 => ?_) (fun h2 => ?_)
      · repeat first | refine sk ?_ | refine st ?_ | refine sg ?_ | refine sh ?_ | refine su ?_ | refine sn1 ?_ | refine sn0 ?_ | refine And.intro (show imp none (gimp _ none) from trivial) ?_
        refine callG bzero ?_
        repeat first | refine sk ?_ | refine st ?_ | refine sg ?_ | refine sh ?_ | refine su ?_ | refine sn1 ?_ | refine sn0 ?_ | refine And.intro (show imp none (gimp _ none) from trivial) ?_
        exact SubR.refl _
      · have h2 : ¬ ((bs s).size : Int) > 20000 := decF h2
        rw [bs_size] at h2
        omega
    · cases hq : readT s with
      | none =>
        obtain ⟨e1, e2⟩ := par_none hbig hq
        rw [e1, e2] at hb
        rw [hq] at hr
        refine callN hb ?_
        refine AW.seq (ex.sound (rc := []) tab_ok mix href _ ?_)
        refine And.intro (fun h2 => ?_) (fun h2 => ?_)
        · have h2 : ((bs s).size : Int) > 20000 := decT h2
          rw [bs_size] at h2
          omega
        refine ex.sound (rc := []) tab_ok mix href _ ?_
        refine callN (show CallP Tryz.prog 13 [vT s] (rGB zeroG false) from hr) ?_
        refine And.intro (fun _ => ?_) (fun h2 => Bool.noConfusion (show true = false from h2))
        repeat first | refine sk ?_ | refine st ?_ | refine sg ?_ | refine sh ?_ | refine su ?_ | refine sn1 ?_ | refine sn0 ?_ | refine And.intro (show imp none (gimp _ none) from trivial) ?_
        refine callG bzero ?_
        repeat first | refine sk ?_ | refine st ?_ | refine sg ?_ | refine sh ?_ | refine su ?_ | refine sn1 ?_ | refine sn0 ?_ | refine And.intro (show imp none (gimp _ none) from trivial) ?_
        exact SubR.refl _
      | some g' =>
        have e1 : parG s = g' := by unfold parG; rw [show decide (s.length > 20000) = false by simpa using hbig, hq]; rfl
        have e2 : parE s = 0 := by unfold parE; rw [show decide (s.length > 20000) = false by simpa using hbig, hq]; rfl
        have v' := (readT_some hq).1
        have hn' := v'.n
        rw [e1, e2] at hb
        rw [hq] at hr
        refine callN hb ?_
        refine AW.seq (ex.sound (rc := []) tab_ok mix href _ ?_)
        refine And.intro (fun h2 => ?_) (fun h2 => ?_)
        · have h2 : ((bs s).size : Int) > 20000 := decT h2
          rw [bs_size] at h2
          omega
        refine ex.sound (rc := []) tab_ok mix href _ ?_
        refine callN (show CallP Tryz.prog 13 [vT s] (rGB g' true) from hr) ?_
        refine And.intro (fun h2 => Bool.noConfusion (show false = true from h2)) (fun _ => ?_)
        repeat first | refine sk ?_ | refine st ?_ | refine sg ?_ | refine sh ?_ | refine su ?_ | refine sn1 ?_ | refine sn0 ?_ | refine And.intro (show imp none (gimp _ none) from trivial) ?_
        refine callG (rSame g' (by omega)) ?_
        repeat first | refine sk ?_ | refine st ?_ | refine sg ?_ | refine sh ?_ | refine su ?_ | refine sn1 ?_ | refine sn0 ?_ | refine And.intro (show imp none (gimp _ none) from trivial) ?_
        exact SubR.refl _
end Go.Ch
