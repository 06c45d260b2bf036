/- Contracts of library functions for this seat (written by the kit's tool, pruned). -/
import Derived.Ground.Names2Prog
import Derived.Ground.SlgnProg
import Derived.Shelf.Bits.Mul64
import Derived.Shelf.LaysC
import Derived.Shelf.LaysM
import Derived.Shelf.Slices.Cells
import Derived.Shelf.Slices.Clone
import Derived.Shelf.Slices.CompactI
import Derived.Shelf.Slices.SearchI
import Derived.Shelf.SlicesE.Clone
import Derived.Shelf.Small.Bits
import Derived.Shelf.Small.Wraps
import Derived.Shelf.Strconv.Atoi
import Derived.Shelf.Strconv.AtoiAll
import Derived.Shelf.Strconv.AtoiErrFast
import Derived.Shelf.Strconv.AtoiFail
import Derived.Shelf.Strconv.AtoiInnerAll
import Derived.Shelf.Strconv.AtoiLong
import Derived.Shelf.Strconv.Clone
import Derived.Shelf.Strconv.ErrVarAll
import Derived.Shelf.Strconv.Itoa0
import Derived.Shelf.Strconv.Itoa1
import Derived.Shelf.Strconv.Itoa2
import Derived.Shelf.Strconv.Itoa3
import Derived.Shelf.Strconv.Lower
import Derived.Shelf.Strconv.ParseInt10
import Derived.Shelf.Strconv.ParseIntEmpty
import Derived.Shelf.Strconv.ParseUint10
import Derived.Shelf.Strconv.ParseUint10Any
import Derived.Shelf.Strconv.ParseUint10Empty
import Derived.Shelf.Strconv.RangeError
import Derived.Shelf.Strconv.SyntaxError
import Derived.Shelf.Strconv.ToError
import Derived.Shelf.Strconv.ToErrorRange
import Derived.Shelf.Strings.Builder1
import Derived.Shelf.Strings.Builder2
import Derived.Shelf.Strings.BuilderF
import Derived.Shelf.Strings.OnBuilder
import Derived.Shelf.Strings.Prefix
import Derived.Shelf.Strings.Repeat
import Derived.Shelf.Strings.Search1
import Derived.Shelf.Strings.Search2
import Derived.Shelf.Strings.Search3
import Derived.Shelf.Strings.Shaped
import Derived.Test.YtdnclnacneakbaaGreatDoorProg
set_option linter.unusedVariables false
set_option linter.unusedSimpArgs false
set_option linter.unusedSectionVars false
namespace Go.Proofs
open Go.Shelf
def Tryz.lays156_ren : Go.Shelf.Ren := ⟨fun | 156 => 458 | 165 => 465 | 166 => 442 | 169 => 444 | 240 => 459 | 241 => 471 | 276 => 466 | 277 => 474 | n => n, fun | 31 => 89 | 9 => 9 | 3 => 3 | 4 => 4 | 0 => 0 | 20 => 20 | 72 => 420 | 76 => 60 | 70 => 418 | 37 => 173 | 75 => 59 | 127 => 342 | 164 => 438 | 5 => 5 | 80 => 77 | n => n, fun | n => n⟩
theorem Tryz.lays156 : Go.Proofs.Lays.n156 Tryz.prog Tryz.lays156_ren := {
  mixed := by kernel_rfl
  f156 := Tryz.func458.trans (congrArg some (by kernel_rfl))
  f165 := Tryz.func465.trans (congrArg some (by kernel_rfl))
  f166 := Tryz.func442.trans (congrArg some (by kernel_rfl))
  f169 := Tryz.func444.trans (congrArg some (by kernel_rfl))
  f240 := Tryz.func459.trans (congrArg some (by kernel_rfl))
  f241 := Tryz.func471.trans (congrArg some (by kernel_rfl))
  f276 := Tryz.func466.trans (congrArg some (by kernel_rfl))
  f277 := Tryz.func474.trans (congrArg some (by kernel_rfl))
  t0 := Tryz.underlying0
  a0 := Tryz.isAgg0
  z0 := Tryz.sizeOf0
  v0 := Tryz.zeroValue0
  t3 := Tryz.underlying3
  a3 := Tryz.isAgg3
  z3 := Tryz.sizeOf3
  v3 := Tryz.zeroValue3
  t4 := Tryz.underlying4
  a4 := Tryz.isAgg4
  z4 := Tryz.sizeOf4
  v4 := Tryz.zeroValue4
  t9 := Tryz.underlying9
  a9 := Tryz.isAgg9
  z9 := Tryz.sizeOf9
  v9 := Tryz.zeroValue9
  t20 := Tryz.underlying20
  a20 := Tryz.isAgg20
  z20 := Tryz.sizeOf20
  v20 := Tryz.zeroValue20
  t31 := Tryz.underlying89
  a31 := Tryz.isAgg89
  z31 := Tryz.sizeOf89
  v31 := Tryz.zeroValue89
  t37 := Tryz.underlying173
  a37 := Tryz.isAgg173
  z37 := Tryz.sizeOf173
  v37 := Tryz.zeroValue173
  t70 := Tryz.underlying418
  a70 := Tryz.isAgg418
  z70 := Tryz.sizeOf418
  v70 := Tryz.zeroValue418
  t72 := Tryz.underlying420
  a72 := Tryz.isAgg420
  z72 := Tryz.sizeOf420
  v72 := Tryz.zeroValue420
  t75 := Tryz.underlying59
  a75 := Tryz.isAgg59
  z75 := Tryz.sizeOf59
  v75 := Tryz.zeroValue59
  t76 := Tryz.underlying60
  a76 := Tryz.isAgg60
  z76 := Tryz.sizeOf60
  v76 := Tryz.zeroValue60
  t127 := Tryz.underlying342
  a127 := Tryz.isAgg342
  z127 := Tryz.sizeOf342
  v127 := Tryz.zeroValue342
  t164 := Tryz.underlying438
  a164 := Tryz.isAgg438
  z164 := Tryz.sizeOf438
  v164 := Tryz.zeroValue438 }
theorem Tryz.Builder_Extra_156 : Builder.Extra Tryz.prog Tryz.lays156_ren := {
  sizeBuilder := by kernel_rfl
  liesBuilder := by kernel_rfl
  t5 := Tryz.underlying5
  a5 := Tryz.isAgg5
  z5 := Tryz.sizeOf5
  v5 := Tryz.zeroValue5
  infoByte := by kernel_rfl
  cellsByte := by kernel_rfl
  sizeByte := by kernel_rfl
  neB5 := by decide }
open Go.RowKit in
theorem Tryz.strings_Join_none (a : Option Addr) (c : Nat) (sep : ByteArray) (w : World) :
    Calls Tryz.prog 458 #[.slice a 0 c, .string sep] w fun e w' => e = .returned (.string ⟨#[]⟩) ∧ w' = w := Any.strings_Join_none Tryz.lays156 Tryz.Builder_Extra_156 a c sep w
open Go.RowKit in
theorem Tryz.strings_Join (bk o c : Nat) (xs : List ByteArray) (sep : ByteArray) (w : World) (hcells : ∀ (j : Nat) x, xs[j]? = some x → w.cell? ⟨bk, o + j, none⟩ = some (.string x)) (hbk : bk < w.heap.size) (hN : xs.length ≤ 140737488355328) (hcap : xs.length ≤ c) (hlen : (Lib.join (xs.map (·.data.toList)) sep.data.toList).length ≤ 140737488355328) :
    Calls Tryz.prog 458 #[.slice (some ⟨bk, o, none⟩) xs.length c, .string sep] w fun e w' => e = .returned (.string ⟨(Lib.join (xs.map (·.data.toList)) sep.data.toList).toArray⟩) ∧ Below w.heap.size w w' := Any.strings_Join Tryz.lays156 Tryz.Builder_Extra_156 bk o c xs sep w hcells hbk hN hcap hlen
def Tryz.lays172_ren : Go.Shelf.Ren := ⟨fun | 172 => 29 | 244 => 60 | 245 => 61 | 247 => 114 | 279 => 115 | 280 => 116 | 281 => 117 | 282 => 118 | 287 => 208 | 316 => 209 | 171 => 22 | 205 => 210 | 321 => 294 | 322 => 295 | 243 => 56 | 246 => 111 | 283 => 194 | 284 => 195 | 285 => 196 | 286 => 197 | 129 => 282 | 317 => 281 | 318 => 283 | 319 => 284 | 320 => 285 | 337 => 393 | 338 => 394 | n => n, fun | 9 => 9 | 3 => 3 | 75 => 59 | 76 => 60 | 4 => 4 | 5 => 5 | 167 => 172 | 37 => 173 | 0 => 0 | 85 => 174 | 2 => 2 | 168 => 176 | 53 => 261 | 175 => 269 | 46 => 259 | 210 => 273 | 127 => 342 | 145 => 345 | 143 => 343 | 21 => 21 | 171 => 260 | 173 => 264 | 212 => 338 | 51 => 334 | 20 => 20 | 213 => 339 | 232 => 421 | 233 => 422 | 80 => 77 | n => n, fun | 15 => 1 | 16 => 2 | 17 => 3 | 18 => 4 | 19 => 5 | n => n⟩
theorem Tryz.lays172 : Go.Proofs.Lays.n172 Tryz.prog Tryz.lays172_ren := {
  mixed := by kernel_rfl
  f129 := Tryz.func282.trans (congrArg some (by kernel_rfl))
  f171 := Tryz.func22.trans (congrArg some (by kernel_rfl))
  f172 := Tryz.func29.trans (congrArg some (by kernel_rfl))
  f205 := Tryz.func210.trans (congrArg some (by kernel_rfl))
  f243 := Tryz.func56.trans (congrArg some (by kernel_rfl))
  f244 := Tryz.func60.trans (congrArg some (by kernel_rfl))
  f245 := Tryz.func61.trans (congrArg some (by kernel_rfl))
  f246 := Tryz.func111.trans (congrArg some (by kernel_rfl))
  f247 := Tryz.func114.trans (congrArg some (by kernel_rfl))
  f279 := Tryz.func115.trans (congrArg some (by kernel_rfl))
  f280 := Tryz.func116.trans (congrArg some (by kernel_rfl))
  f281 := Tryz.func117.trans (congrArg some (by kernel_rfl))
  f282 := Tryz.func118.trans (congrArg some (by kernel_rfl))
  f283 := Tryz.func194.trans (congrArg some (by kernel_rfl))
  f284 := Tryz.func195.trans (congrArg some (by kernel_rfl))
  f285 := Tryz.func196.trans (congrArg some (by kernel_rfl))
  f286 := Tryz.func197.trans (congrArg some (by kernel_rfl))
  f287 := Tryz.func208.trans (congrArg some (by kernel_rfl))
  f316 := Tryz.func209.trans (congrArg some (by kernel_rfl))
  f317 := Tryz.func281.trans (congrArg some (by kernel_rfl))
  f318 := Tryz.func283.trans (congrArg some (by kernel_rfl))
  f319 := Tryz.func284.trans (congrArg some (by kernel_rfl))
  f320 := Tryz.func285.trans (congrArg some (by kernel_rfl))
  f321 := Tryz.func294.trans (congrArg some (by kernel_rfl))
  f322 := Tryz.func295.trans (congrArg some (by kernel_rfl))
  f337 := Tryz.func393.trans (congrArg some (by kernel_rfl))
  f338 := Tryz.func394.trans (congrArg some (by kernel_rfl))
  t0 := Tryz.underlying0
  a0 := Tryz.isAgg0
  z0 := Tryz.sizeOf0
  v0 := Tryz.zeroValue0
  t2 := Tryz.underlying2
  a2 := Tryz.isAgg2
  z2 := Tryz.sizeOf2
  v2 := Tryz.zeroValue2
  t3 := Tryz.underlying3
  a3 := Tryz.isAgg3
  z3 := Tryz.sizeOf3
  v3 := Tryz.zeroValue3
  t4 := Tryz.underlying4
  a4 := Tryz.isAgg4
  z4 := Tryz.sizeOf4
  v4 := Tryz.zeroValue4
  t5 := Tryz.underlying5
  a5 := Tryz.isAgg5
  z5 := Tryz.sizeOf5
  v5 := Tryz.zeroValue5
  t9 := Tryz.underlying9
  a9 := Tryz.isAgg9
  z9 := Tryz.sizeOf9
  v9 := Tryz.zeroValue9
  t20 := Tryz.underlying20
  a20 := Tryz.isAgg20
  z20 := Tryz.sizeOf20
  v20 := Tryz.zeroValue20
  t21 := Tryz.underlying21
  a21 := Tryz.isAgg21
  z21 := Tryz.sizeOf21
  v21 := Tryz.zeroValue21
  t37 := Tryz.underlying173
  a37 := Tryz.isAgg173
  z37 := Tryz.sizeOf173
  v37 := Tryz.zeroValue173
  t46 := Tryz.underlying259
  a46 := Tryz.isAgg259
  z46 := Tryz.sizeOf259
  v46 := Tryz.zeroValue259
  t51 := Tryz.underlying334
  a51 := Tryz.isAgg334
  z51 := Tryz.sizeOf334
  v51 := Tryz.zeroValue334
  t53 := Tryz.underlying261
  a53 := Tryz.isAgg261
  z53 := Tryz.sizeOf261
  v53 := Tryz.zeroValue261
  t75 := Tryz.underlying59
  a75 := Tryz.isAgg59
  z75 := Tryz.sizeOf59
  v75 := Tryz.zeroValue59
  t76 := Tryz.underlying60
  a76 := Tryz.isAgg60
  z76 := Tryz.sizeOf60
  v76 := Tryz.zeroValue60
  t85 := Tryz.underlying174
  a85 := Tryz.isAgg174
  z85 := Tryz.sizeOf174
  v85 := Tryz.zeroValue174
  t127 := Tryz.underlying342
  a127 := Tryz.isAgg342
  z127 := Tryz.sizeOf342
  v127 := Tryz.zeroValue342
  t143 := Tryz.underlying343
  a143 := Tryz.isAgg343
  z143 := Tryz.sizeOf343
  v143 := Tryz.zeroValue343
  t145 := Tryz.underlying345
  a145 := Tryz.isAgg345
  z145 := Tryz.sizeOf345
  v145 := Tryz.zeroValue345
  t167 := Tryz.underlying172
  a167 := Tryz.isAgg172
  z167 := Tryz.sizeOf172
  v167 := Tryz.zeroValue172
  t168 := Tryz.underlying176
  a168 := Tryz.isAgg176
  z168 := Tryz.sizeOf176
  v168 := Tryz.zeroValue176
  t171 := Tryz.underlying260
  a171 := Tryz.isAgg260
  z171 := Tryz.sizeOf260
  v171 := Tryz.zeroValue260
  t173 := Tryz.underlying264
  a173 := Tryz.isAgg264
  z173 := Tryz.sizeOf264
  v173 := Tryz.zeroValue264
  t175 := Tryz.underlying269
  a175 := Tryz.isAgg269
  z175 := Tryz.sizeOf269
  v175 := Tryz.zeroValue269
  t210 := Tryz.underlying273
  a210 := Tryz.isAgg273
  z210 := Tryz.sizeOf273
  v210 := Tryz.zeroValue273
  t212 := Tryz.underlying338
  a212 := Tryz.isAgg338
  z212 := Tryz.sizeOf338
  v212 := Tryz.zeroValue338
  t213 := Tryz.underlying339
  a213 := Tryz.isAgg339
  z213 := Tryz.sizeOf339
  t232 := Tryz.underlying421
  a232 := Tryz.isAgg421
  z232 := Tryz.sizeOf421
  v232 := Tryz.zeroValue421
  t233 := Tryz.underlying422
  a233 := Tryz.isAgg422
  z233 := Tryz.sizeOf422
  v233 := Tryz.zeroValue422
  g15 := by kernel_rfl
  g16 := by kernel_rfl
  g17 := by kernel_rfl
  g18 := by kernel_rfl
  g19 := by kernel_rfl }
open Go.RowKit in
theorem Tryz.strconv_Atoi (s : ByteArray) (n : Int) (hl : s.size ≤ 18) (h : Lib.atoi s.data.toList = some n) (w : World) :
    Calls Tryz.prog 29 #[.string s] w fun e w' => e = .returned (.tuple #[.int .i64 n, .nilIface]) ∧ ∃ t, w' = Lib.bytesWorld w 5 t := Any.strconv_Atoi Tryz.lays172 s n hl h w
def Tryz.laysM171_ren : Go.Shelf.Ren := ⟨fun | 171 => 22 | 243 => 56 | 246 => 111 | 283 => 194 | 284 => 195 | 285 => 196 | 286 => 197 | 129 => 282 | 317 => 281 | 318 => 283 | 319 => 284 | 320 => 285 | 337 => 393 | 338 => 394 | n => n, fun | 3 => 3 | 9 => 9 | 2 => 2 | 4 => 4 | 171 => 260 | 0 => 0 | 53 => 261 | 37 => 173 | 5 => 5 | 173 => 264 | 212 => 338 | 51 => 334 | 20 => 20 | 213 => 339 | 46 => 259 | 232 => 421 | 233 => 422 | n => n, fun | 17 => 3 | 18 => 4 | 19 => 5 | n => n⟩
theorem Tryz.laysM171 : Go.Proofs.LaysM.n171 Tryz.prog Tryz.laysM171_ren := {
  mixed := by kernel_rfl
  f129 := Tryz.func282.trans (congrArg some (by kernel_rfl))
  f171 := Tryz.func22.trans (congrArg some (by kernel_rfl))
  f243 := Tryz.func56.trans (congrArg some (by kernel_rfl))
  f246 := Tryz.func111.trans (congrArg some (by kernel_rfl))
  f283 := Tryz.func194.trans (congrArg some (by kernel_rfl))
  f284 := Tryz.func195.trans (congrArg some (by kernel_rfl))
  f285 := Tryz.func196.trans (congrArg some (by kernel_rfl))
  f286 := Tryz.func197.trans (congrArg some (by kernel_rfl))
  f317 := Tryz.func281.trans (congrArg some (by kernel_rfl))
  f318 := Tryz.func283.trans (congrArg some (by kernel_rfl))
  f319 := Tryz.func284.trans (congrArg some (by kernel_rfl))
  f320 := Tryz.func285.trans (congrArg some (by kernel_rfl))
  f337 := Tryz.func393.trans (congrArg some (by kernel_rfl))
  f338 := Tryz.func394.trans (congrArg some (by kernel_rfl))
  t0 := Tryz.underlying0
  a0 := Tryz.isAgg0
  z0 := Tryz.sizeOf0
  v0 := Tryz.zeroValue0
  t2 := Tryz.underlying2
  a2 := Tryz.isAgg2
  z2 := Tryz.sizeOf2
  v2 := Tryz.zeroValue2
  t3 := Tryz.underlying3
  a3 := Tryz.isAgg3
  z3 := Tryz.sizeOf3
  v3 := Tryz.zeroValue3
  t4 := Tryz.underlying4
  a4 := Tryz.isAgg4
  z4 := Tryz.sizeOf4
  v4 := Tryz.zeroValue4
  t5 := Tryz.underlying5
  a5 := Tryz.isAgg5
  z5 := Tryz.sizeOf5
  v5 := Tryz.zeroValue5
  t9 := Tryz.underlying9
  a9 := Tryz.isAgg9
  z9 := Tryz.sizeOf9
  v9 := Tryz.zeroValue9
  t20 := Tryz.underlying20
  a20 := Tryz.isAgg20
  z20 := Tryz.sizeOf20
  v20 := Tryz.zeroValue20
  t37 := Tryz.underlying173
  a37 := Tryz.isAgg173
  z37 := Tryz.sizeOf173
  v37 := Tryz.zeroValue173
  t46 := Tryz.underlying259
  a46 := Tryz.isAgg259
  z46 := Tryz.sizeOf259
  v46 := Tryz.zeroValue259
  t51 := Tryz.underlying334
  a51 := Tryz.isAgg334
  z51 := Tryz.sizeOf334
  v51 := Tryz.zeroValue334
  t53 := Tryz.underlying261
  a53 := Tryz.isAgg261
  z53 := Tryz.sizeOf261
  v53 := Tryz.zeroValue261
  t171 := Tryz.underlying260
  a171 := Tryz.isAgg260
  z171 := Tryz.sizeOf260
  v171 := Tryz.zeroValue260
  t173 := Tryz.underlying264
  a173 := Tryz.isAgg264
  z173 := Tryz.sizeOf264
  v173 := Tryz.zeroValue264
  t212 := Tryz.underlying338
  a212 := Tryz.isAgg338
  z212 := Tryz.sizeOf338
  v212 := Tryz.zeroValue338
  t213 := Tryz.underlying339
  a213 := Tryz.isAgg339
  z213 := Tryz.sizeOf339
  t232 := Tryz.underlying421
  a232 := Tryz.isAgg421
  z232 := Tryz.sizeOf421
  v232 := Tryz.zeroValue421
  t233 := Tryz.underlying422
  a233 := Tryz.isAgg422
  z233 := Tryz.sizeOf422
  v233 := Tryz.zeroValue422
  g17 := by kernel_rfl
  g18 := by kernel_rfl
  g19 := by kernel_rfl
  i0 := by kernel_rfl
  i2 := by kernel_rfl
  i3 := by kernel_rfl
  i4 := by kernel_rfl
  i5 := by kernel_rfl
  i9 := by kernel_rfl
  i20 := by kernel_rfl
  i37 := by kernel_rfl
  i46 := by kernel_rfl
  i51 := by kernel_rfl
  i53 := by kernel_rfl
  i171 := by kernel_rfl
  i173 := by kernel_rfl
  i212 := by kernel_rfl
  i232 := by kernel_rfl
  i233 := by kernel_rfl
  m17 := by kernel_rfl
  m18 := by kernel_rfl
  m19 := by kernel_rfl }
open Go.RowKit Go.Sort Go.Lib in
theorem Tryz.strconv_Itoa (n : Int) (h0 : -9223372036854775808 ≤ n) (h1 : n ≤ 9223372036854775807) (w : World) (htab : Lib.TabIs Tryz.prog w "internal/strconv.uint64pow10" .u64 Lib.pow10Tab) :
    Calls Tryz.prog 22 #[.int .i64 n] w fun e w' => e = .returned (.string ⟨(Lib.itoa n).toArray⟩) ∧ ∃ k os, w' = grow (w.drewN k) os := Any.strconv_Itoa Tryz.laysM171 n h0 h1 w htab
def Tryz.lays144_ren : Go.Shelf.Ren := ⟨fun | 144 => 17 | 143 => 54 | 219 => 110 | 217 => 190 | 225 => 191 | 224 => 192 | 267 => 193 | 266 => 279 | 314 => 280 | n => n, fun | 9 => 9 | 4 => 4 | 3 => 3 | 5 => 5 | 46 => 259 | 146 => 335 | 51 => 334 | n => n, fun | 1 => 0 | n => n⟩
theorem Tryz.lays144 : Go.Proofs.Lays.n144 Tryz.prog Tryz.lays144_ren := {
  mixed := by kernel_rfl
  f143 := Tryz.func54.trans (congrArg some (by kernel_rfl))
  f144 := Tryz.func17.trans (congrArg some (by kernel_rfl))
  f217 := Tryz.func190.trans (congrArg some (by kernel_rfl))
  f219 := Tryz.func110.trans (congrArg some (by kernel_rfl))
  f224 := Tryz.func192.trans (congrArg some (by kernel_rfl))
  f225 := Tryz.func191.trans (congrArg some (by kernel_rfl))
  f266 := Tryz.func279.trans (congrArg some (by kernel_rfl))
  f267 := Tryz.func193.trans (congrArg some (by kernel_rfl))
  f314 := Tryz.func280.trans (congrArg some (by kernel_rfl))
  t3 := Tryz.underlying3
  a3 := Tryz.isAgg3
  z3 := Tryz.sizeOf3
  v3 := Tryz.zeroValue3
  t4 := Tryz.underlying4
  a4 := Tryz.isAgg4
  z4 := Tryz.sizeOf4
  v4 := Tryz.zeroValue4
  t5 := Tryz.underlying5
  a5 := Tryz.isAgg5
  z5 := Tryz.sizeOf5
  v5 := Tryz.zeroValue5
  t9 := Tryz.underlying9
  a9 := Tryz.isAgg9
  z9 := Tryz.sizeOf9
  v9 := Tryz.zeroValue9
  t46 := Tryz.underlying259
  a46 := Tryz.isAgg259
  z46 := Tryz.sizeOf259
  v46 := Tryz.zeroValue259
  t51 := Tryz.underlying334
  a51 := Tryz.isAgg334
  z51 := Tryz.sizeOf334
  v51 := Tryz.zeroValue334
  t146 := Tryz.underlying335
  a146 := Tryz.isAgg335
  z146 := Tryz.sizeOf335
  v146 := Tryz.zeroValue335
  g1 := by kernel_rfl }
open Go.RowKit Go.Lib in
theorem Tryz.strings_Contains_one (s : ByteArray) (c : UInt8) (w : World) :
    Calls Tryz.prog 17 #[.string s, .string ⟨#[c]⟩] w fun e w' => e = .returned (.bool (decide (0 ≤ Lib.indexByte s.data.toList c))) ∧ w' = w := Any.strings_Contains_one Tryz.lays144 s c w
open Go.RowKit Go.Lib in
theorem Tryz.strings_Contains (s sub : ByteArray) (m : Int) (w : World) (hs : s.size < 4294967281) (hm : w.cell? ⟨0, 0, none⟩ = some (.int .i64 m)) :
    Calls Tryz.prog 17 #[.string s, .string sub] w fun e w' => e = .returned (.bool (Lib.contains s.data.toList sub.data.toList)) ∧ w' = w := Any.strings_Contains Tryz.lays144 s sub m w hs hm
def Tryz.laysM144_ren : Go.Shelf.Ren := ⟨fun | 144 => 17 | 143 => 54 | 219 => 110 | 217 => 190 | 225 => 191 | 224 => 192 | 267 => 193 | 266 => 279 | 314 => 280 | n => n, fun | 9 => 9 | 4 => 4 | 3 => 3 | 5 => 5 | 46 => 259 | 146 => 335 | 51 => 334 | n => n, fun | 1 => 0 | n => n⟩
theorem Tryz.laysM144 : Go.Proofs.LaysM.n144 Tryz.prog Tryz.laysM144_ren := {
  mixed := by kernel_rfl
  f143 := Tryz.func54.trans (congrArg some (by kernel_rfl))
  f144 := Tryz.func17.trans (congrArg some (by kernel_rfl))
  f217 := Tryz.func190.trans (congrArg some (by kernel_rfl))
  f219 := Tryz.func110.trans (congrArg some (by kernel_rfl))
  f224 := Tryz.func192.trans (congrArg some (by kernel_rfl))
  f225 := Tryz.func191.trans (congrArg some (by kernel_rfl))
  f266 := Tryz.func279.trans (congrArg some (by kernel_rfl))
  f267 := Tryz.func193.trans (congrArg some (by kernel_rfl))
  f314 := Tryz.func280.trans (congrArg some (by kernel_rfl))
  t3 := Tryz.underlying3
  a3 := Tryz.isAgg3
  z3 := Tryz.sizeOf3
  v3 := Tryz.zeroValue3
  t4 := Tryz.underlying4
  a4 := Tryz.isAgg4
  z4 := Tryz.sizeOf4
  v4 := Tryz.zeroValue4
  t5 := Tryz.underlying5
  a5 := Tryz.isAgg5
  z5 := Tryz.sizeOf5
  v5 := Tryz.zeroValue5
  t9 := Tryz.underlying9
  a9 := Tryz.isAgg9
  z9 := Tryz.sizeOf9
  v9 := Tryz.zeroValue9
  t46 := Tryz.underlying259
  a46 := Tryz.isAgg259
  z46 := Tryz.sizeOf259
  v46 := Tryz.zeroValue259
  t51 := Tryz.underlying334
  a51 := Tryz.isAgg334
  z51 := Tryz.sizeOf334
  v51 := Tryz.zeroValue334
  t146 := Tryz.underlying335
  a146 := Tryz.isAgg335
  z146 := Tryz.sizeOf335
  v146 := Tryz.zeroValue335
  g1 := by kernel_rfl
  i3 := by kernel_rfl
  i4 := by kernel_rfl
  i5 := by kernel_rfl
  i9 := by kernel_rfl
  i46 := by kernel_rfl
  i51 := by kernel_rfl
  i146 := by kernel_rfl
  m1 := by kernel_rfl
  s1_3 := fun w h => Go.Proofs.cell_of_shapedOpen_int (zero := #[.int .i64 0]) (t := 3) h (of_decide_eq_true (by kernel_rfl)) (by kernel_rfl) rfl (by kernel_rfl) (by kernel_rfl) Tryz.underlying3 }
def Tryz.lays105_ren : Go.Shelf.Ren := ⟨fun | 105 => 460 | 212 => 455 | 99 => 467 | 165 => 465 | 166 => 442 | 170 => 468 | 169 => 444 | 263 => 463 | 264 => 464 | 206 => 472 | 240 => 459 | 241 => 471 | 276 => 466 | 277 => 474 | n => n, fun | 9 => 9 | 3 => 3 | 4 => 4 | 20 => 20 | 0 => 0 | 46 => 259 | 109 => 429 | 5 => 5 | 72 => 420 | 76 => 60 | 51 => 334 | 146 => 335 | 53 => 261 | 148 => 436 | 70 => 418 | 37 => 173 | 75 => 59 | 127 => 342 | 164 => 438 | 80 => 77 | n => n, fun | n => n⟩
theorem Tryz.lays105 : Go.Proofs.Lays.n105 Tryz.prog Tryz.lays105_ren := {
  mixed := by kernel_rfl
  f99 := Tryz.func467.trans (congrArg some (by kernel_rfl))
  f105 := Tryz.func460.trans (congrArg some (by kernel_rfl))
  f165 := Tryz.func465.trans (congrArg some (by kernel_rfl))
  f166 := Tryz.func442.trans (congrArg some (by kernel_rfl))
  f169 := Tryz.func444.trans (congrArg some (by kernel_rfl))
  f170 := Tryz.func468.trans (congrArg some (by kernel_rfl))
  f206 := Tryz.func472.trans (congrArg some (by kernel_rfl))
  f212 := Tryz.func455.trans (congrArg some (by kernel_rfl))
  f240 := Tryz.func459.trans (congrArg some (by kernel_rfl))
  f241 := Tryz.func471.trans (congrArg some (by kernel_rfl))
  f263 := Tryz.func463.trans (congrArg some (by kernel_rfl))
  f264 := Tryz.func464.trans (congrArg some (by kernel_rfl))
  f276 := Tryz.func466.trans (congrArg some (by kernel_rfl))
  f277 := Tryz.func474.trans (congrArg some (by kernel_rfl))
  t0 := Tryz.underlying0
  a0 := Tryz.isAgg0
  z0 := Tryz.sizeOf0
  v0 := Tryz.zeroValue0
  t3 := Tryz.underlying3
  a3 := Tryz.isAgg3
  z3 := Tryz.sizeOf3
  v3 := Tryz.zeroValue3
  t4 := Tryz.underlying4
  a4 := Tryz.isAgg4
  z4 := Tryz.sizeOf4
  v4 := Tryz.zeroValue4
  t5 := Tryz.underlying5
  a5 := Tryz.isAgg5
  z5 := Tryz.sizeOf5
  v5 := Tryz.zeroValue5
  t9 := Tryz.underlying9
  a9 := Tryz.isAgg9
  z9 := Tryz.sizeOf9
  v9 := Tryz.zeroValue9
  t20 := Tryz.underlying20
  a20 := Tryz.isAgg20
  z20 := Tryz.sizeOf20
  v20 := Tryz.zeroValue20
  t37 := Tryz.underlying173
  a37 := Tryz.isAgg173
  z37 := Tryz.sizeOf173
  v37 := Tryz.zeroValue173
  t46 := Tryz.underlying259
  a46 := Tryz.isAgg259
  z46 := Tryz.sizeOf259
  v46 := Tryz.zeroValue259
  t51 := Tryz.underlying334
  a51 := Tryz.isAgg334
  z51 := Tryz.sizeOf334
  v51 := Tryz.zeroValue334
  t53 := Tryz.underlying261
  a53 := Tryz.isAgg261
  z53 := Tryz.sizeOf261
  v53 := Tryz.zeroValue261
  t70 := Tryz.underlying418
  a70 := Tryz.isAgg418
  z70 := Tryz.sizeOf418
  v70 := Tryz.zeroValue418
  t72 := Tryz.underlying420
  a72 := Tryz.isAgg420
  z72 := Tryz.sizeOf420
  v72 := Tryz.zeroValue420
  t75 := Tryz.underlying59
  a75 := Tryz.isAgg59
  z75 := Tryz.sizeOf59
  v75 := Tryz.zeroValue59
  t76 := Tryz.underlying60
  a76 := Tryz.isAgg60
  z76 := Tryz.sizeOf60
  v76 := Tryz.zeroValue60
  t109 := Tryz.underlying429
  a109 := Tryz.isAgg429
  z109 := Tryz.sizeOf429
  v109 := Tryz.zeroValue429
  t127 := Tryz.underlying342
  a127 := Tryz.isAgg342
  z127 := Tryz.sizeOf342
  v127 := Tryz.zeroValue342
  t146 := Tryz.underlying335
  a146 := Tryz.isAgg335
  z146 := Tryz.sizeOf335
  v146 := Tryz.zeroValue335
  t148 := Tryz.underlying436
  a148 := Tryz.isAgg436
  z148 := Tryz.sizeOf436
  v148 := Tryz.zeroValue436
  t164 := Tryz.underlying438
  a164 := Tryz.isAgg438
  z164 := Tryz.sizeOf438
  v164 := Tryz.zeroValue438 }
theorem Tryz.Builder_Extra_105 : Builder.Extra Tryz.prog Tryz.lays105_ren := {
  sizeBuilder := by kernel_rfl
  liesBuilder := by kernel_rfl
  t5 := Tryz.underlying5
  a5 := Tryz.isAgg5
  z5 := Tryz.sizeOf5
  v5 := Tryz.zeroValue5
  infoByte := by kernel_rfl
  cellsByte := by kernel_rfl
  sizeByte := by kernel_rfl
  neB5 := by decide }
open Go.RowKit Go.Lib in
theorem Tryz.strings_Repeat (s : ByteArray) (c : Nat) (w : World) (hc : c ≤ 9223372036854775807) (hlen : s.size * c ≤ 140737488355328) :
    Calls Tryz.prog 460 #[.string s, .int .i64 c] w fun e w' => e = .returned (.string ⟨(Lib.repeatL s.data.toList c).toArray⟩) ∧ Below w.heap.size w w' := Any.strings_Repeat Tryz.lays105 Tryz.Builder_Extra_105 s c w hc hlen
end Go.Proofs
