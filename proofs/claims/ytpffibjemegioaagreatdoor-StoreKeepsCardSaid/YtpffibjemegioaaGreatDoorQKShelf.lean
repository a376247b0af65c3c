/-
  Contracts of library functions at this program, laid by the shelf in plain words.
-/
import Derived.Shelf.Strings.Builder1
import Derived.Shelf.Strings.Builder2
import Derived.Shelf.Strings.OnBuilder
import Derived.Shelf.Strings.Trim
import Derived.Shelf.Small.Utf8
import Derived.Shelf.Small.Bits
import Derived.Shelf.Small.Strs
import Derived.Shelf.Small.Wraps
import Derived.Shelf.Strings.BuilderF
import Derived.Shelf.Strings.BuilderK
import Derived.Shelf.Utf8.RuneCount
import Derived.Shelf.Strings.Builder2Cap
import Derived.Shelf.Strconv.Atoi
import Derived.Shelf.Strconv.Itoa0
import Derived.Shelf.Strconv.Itoa1
import Derived.Shelf.LaysM
import Derived.Shelf.Strconv.Itoa2
import Derived.Shelf.Strconv.Itoa3
import Derived.Shelf.Strconv.AtoiErrFast
import Derived.Shelf.Strconv.ParseIntEmpty
import Derived.Shelf.Strconv.AtoiFail
import Derived.Shelf.Strconv.Clone
import Derived.Shelf.Strconv.SyntaxError
import Derived.Shelf.LaysC
import Derived.Shelf.Strconv.ToError
import Derived.Shelf.Strconv.Lower
import Derived.Shelf.Strconv.ParseUint10
import Derived.Shelf.Strconv.ParseUint10Empty
import Derived.Shelf.Strconv.ParseUint10Any
import Derived.Shelf.Strconv.ParseInt10
import Derived.Shelf.Strconv.AtoiLong
import Derived.Shelf.Strconv.AtoiInnerAll
import Derived.Shelf.Strconv.RangeError
import Derived.Shelf.Strconv.ToErrorRange
import Derived.Shelf.Strconv.AtoiAll
import Derived.Shelf.Strconv.ErrVarAll
import Derived.Shelf.Strconv.ParseUintEmpty
import Derived.Shelf.Strconv.ParseUint10b64
import Derived.Shelf.Strconv.ParseUint10b32
import Derived.Shelf.Strconv.ParseUint10b16
import Derived.Shelf.Strconv.ParseUint10b8
import Derived.Ground.MpProg
import Derived.Shelf.Pu.ParseUintPublic10
import Derived.Shelf.Pu.ErrVarParseUint
import Derived.Shelf.Strings.Search1
import Derived.Shelf.Strings.Search2
import Derived.Shelf.Strings.Search3
import Derived.Shelf.Strings.Cut
import Derived.Shelf.Strings.Count
import Derived.Shelf.Strings.Shaped
import Derived.Shelf.Strings.Prefix
import Derived.Shelf.Strings.Split
import Derived.Shelf.Strings.SplitShaped
import Derived.Shelf.Unicode.Decode
import Derived.Shelf.Strings.Runes
import Derived.Shelf.Strings.RuneCount
import Derived.Shelf.Strings.AsciiSet
import Derived.Shelf.Strings.Explode
import Derived.Shelf.Unicode.DecodeSlow
import Derived.Shelf.Unicode.DecodeAny
import Derived.Shelf.Unicode.DecodeLast
import Derived.Shelf.Slices.Turned
import Derived.Shelf.Slices.Equal
import Derived.Ground.Names2Prog
import Derived.Shelf.Slices.Clone
import Derived.Shelf.Slices.SearchI
import Derived.Shelf.Slices.Empties2
import Derived.Ground.SlgnProg
import Derived.Shelf.SlicesE.Clone
import Derived.Test.YtpffibjemegioaaGreatDoorProg
set_option linter.unusedVariables false
namespace Go.Proofs
open Go.Shelf
def Tryz.lays156_ren : Go.Shelf.Ren := ⟨fun | 156 => 199 | 165 => 266 | 166 => 159 | 169 => 122 | 240 => 212 | 241 => 297 | 276 => 271 | 277 => 317 | n => n, fun | 31 => 22 | 9 => 9 | 3 => 3 | 4 => 4 | 0 => 0 | 20 => 20 | 72 => 149 | 76 => 189 | 70 => 147 | 37 => 60 | 75 => 188 | 127 => 197 | 164 => 287 | 5 => 5 | 80 => 153 | n => n, fun | n => n⟩
theorem Tryz.lays156 : Go.Proofs.Lays.n156 Tryz.prog Tryz.lays156_ren := {
  mixed := by kernel_rfl
  f156 := Tryz.func199.trans (congrArg some (by kernel_rfl))
  f165 := Tryz.func266.trans (congrArg some (by kernel_rfl))
  f166 := Tryz.func159.trans (congrArg some (by kernel_rfl))
  f169 := Tryz.func122.trans (congrArg some (by kernel_rfl))
  f240 := Tryz.func212.trans (congrArg some (by kernel_rfl))
  f241 := Tryz.func297.trans (congrArg some (by kernel_rfl))
  f276 := Tryz.func271.trans (congrArg some (by kernel_rfl))
  f277 := Tryz.func317.trans (congrArg some (by kernel_rfl))
  t0 := Tryz.underlying0
  a0 := Tryz.isAgg0
  z0 := Tryz.sizeOf0
  v0 := Tryz.zeroValue0
  t3 := Tryz.underlying3
  a3 := Tryz.isAgg3
  z3 := Tryz.sizeOf3
  v3 := Tryz.zeroValue3
  t4 := Tryz.underlying4
  a4 := Tryz.isAgg4
  z4 := Tryz.sizeOf4
  v4 := Tryz.zeroValue4
  t9 := Tryz.underlying9
  a9 := Tryz.isAgg9
  z9 := Tryz.sizeOf9
  v9 := Tryz.zeroValue9
  t20 := Tryz.underlying20
  a20 := Tryz.isAgg20
  z20 := Tryz.sizeOf20
  v20 := Tryz.zeroValue20
  t31 := Tryz.underlying22
  a31 := Tryz.isAgg22
  z31 := Tryz.sizeOf22
  v31 := Tryz.zeroValue22
  t37 := Tryz.underlying60
  a37 := Tryz.isAgg60
  z37 := Tryz.sizeOf60
  v37 := Tryz.zeroValue60
  t70 := Tryz.underlying147
  a70 := Tryz.isAgg147
  z70 := Tryz.sizeOf147
  v70 := Tryz.zeroValue147
  t72 := Tryz.underlying149
  a72 := Tryz.isAgg149
  z72 := Tryz.sizeOf149
  v72 := Tryz.zeroValue149
  t75 := Tryz.underlying188
  a75 := Tryz.isAgg188
  z75 := Tryz.sizeOf188
  v75 := Tryz.zeroValue188
  t76 := Tryz.underlying189
  a76 := Tryz.isAgg189
  z76 := Tryz.sizeOf189
  v76 := Tryz.zeroValue189
  t127 := Tryz.underlying197
  a127 := Tryz.isAgg197
  z127 := Tryz.sizeOf197
  v127 := Tryz.zeroValue197
  t164 := Tryz.underlying287
  a164 := Tryz.isAgg287
  z164 := Tryz.sizeOf287
  v164 := Tryz.zeroValue287 }
theorem Tryz.Builder_Extra_156 : Builder.Extra Tryz.prog Tryz.lays156_ren := {
  sizeBuilder := by kernel_rfl
  liesBuilder := by kernel_rfl
  t5 := Tryz.underlying5
  a5 := Tryz.isAgg5
  z5 := Tryz.sizeOf5
  v5 := Tryz.zeroValue5
  infoByte := by kernel_rfl
  cellsByte := by kernel_rfl
  sizeByte := by kernel_rfl
  neB5 := by decide }
open Go.RowKit in
theorem Tryz.strings_Join_none (a : Option Addr) (c : Nat) (sep : ByteArray) (w : World) :
    Calls Tryz.prog 199 #[.slice a 0 c, .string sep] w fun e w' => e = .returned (.string ⟨#[]⟩) ∧ w' = w := Any.strings_Join_none Tryz.lays156 Tryz.Builder_Extra_156 a c sep w
open Go.RowKit in
theorem Tryz.strings_Join (bk o c : Nat) (xs : List ByteArray) (sep : ByteArray) (w : World) (hcells : ∀ (j : Nat) x, xs[j]? = some x → w.cell? ⟨bk, o + j, none⟩ = some (.string x)) (hbk : bk < w.heap.size) (hN : xs.length ≤ 140737488355328) (hcap : xs.length ≤ c) (hlen : (Lib.join (xs.map (·.data.toList)) sep.data.toList).length ≤ 140737488355328) :
    Calls Tryz.prog 199 #[.slice (some ⟨bk, o, none⟩) xs.length c, .string sep] w fun e w' => e = .returned (.string ⟨(Lib.join (xs.map (·.data.toList)) sep.data.toList).toArray⟩) ∧ Below w.heap.size w w' := Any.strings_Join Tryz.lays156 Tryz.Builder_Extra_156 bk o c xs sep w hcells hbk hN hcap hlen
def Tryz.lays160_ren : Go.Shelf.Ren := ⟨fun | 160 => 197 | 232 => 260 | 231 => 259 | 227 => 261 | 234 => 263 | 233 => 262 | 236 => 265 | 235 => 264 | 228 => 294 | 271 => 296 | 151 => 295 | 197 => 291 | 120 => 316 | 152 => 315 | 260 => 314 | 137 => 324 | 119 => 325 | 224 => 303 | 225 => 302 | 217 => 301 | 266 => 318 | n => n, fun | 9 => 9 | 4 => 4 | 3 => 3 | 5 => 5 | 117 => 280 | 116 => 279 | 0 => 0 | 124 => 283 | 21 => 21 | 105 => 307 | 46 => 211 | 119 => 333 | 139 => 336 | 138 => 335 | n => n, fun | 3 => 4 | 4 => 5 | n => n⟩
theorem Tryz.lays160 : Go.Proofs.Lays.n160 Tryz.prog Tryz.lays160_ren := {
  mixed := by kernel_rfl
  f119 := Tryz.func325.trans (congrArg some (by kernel_rfl))
  f120 := Tryz.func316.trans (congrArg some (by kernel_rfl))
  f137 := Tryz.func324.trans (congrArg some (by kernel_rfl))
  f151 := Tryz.func295.trans (congrArg some (by kernel_rfl))
  f152 := Tryz.func315.trans (congrArg some (by kernel_rfl))
  f160 := Tryz.func197.trans (congrArg some (by kernel_rfl))
  f197 := Tryz.func291.trans (congrArg some (by kernel_rfl))
  f217 := Tryz.func301.trans (congrArg some (by kernel_rfl))
  f224 := Tryz.func303.trans (congrArg some (by kernel_rfl))
  f225 := Tryz.func302.trans (congrArg some (by kernel_rfl))
  f227 := Tryz.func261.trans (congrArg some (by kernel_rfl))
  f228 := Tryz.func294.trans (congrArg some (by kernel_rfl))
  f231 := Tryz.func259.trans (congrArg some (by kernel_rfl))
  f232 := Tryz.func260.trans (congrArg some (by kernel_rfl))
  f233 := Tryz.func262.trans (congrArg some (by kernel_rfl))
  f234 := Tryz.func263.trans (congrArg some (by kernel_rfl))
  f235 := Tryz.func264.trans (congrArg some (by kernel_rfl))
  f236 := Tryz.func265.trans (congrArg some (by kernel_rfl))
  f260 := Tryz.func314.trans (congrArg some (by kernel_rfl))
  f266 := Tryz.func318.trans (congrArg some (by kernel_rfl))
  f271 := Tryz.func296.trans (congrArg some (by kernel_rfl))
  t0 := Tryz.underlying0
  a0 := Tryz.isAgg0
  z0 := Tryz.sizeOf0
  v0 := Tryz.zeroValue0
  t3 := Tryz.underlying3
  a3 := Tryz.isAgg3
  z3 := Tryz.sizeOf3
  v3 := Tryz.zeroValue3
  t4 := Tryz.underlying4
  a4 := Tryz.isAgg4
  z4 := Tryz.sizeOf4
  v4 := Tryz.zeroValue4
  t5 := Tryz.underlying5
  a5 := Tryz.isAgg5
  z5 := Tryz.sizeOf5
  v5 := Tryz.zeroValue5
  t9 := Tryz.underlying9
  a9 := Tryz.isAgg9
  z9 := Tryz.sizeOf9
  v9 := Tryz.zeroValue9
  t21 := Tryz.underlying21
  a21 := Tryz.isAgg21
  z21 := Tryz.sizeOf21
  v21 := Tryz.zeroValue21
  t46 := Tryz.underlying211
  a46 := Tryz.isAgg211
  z46 := Tryz.sizeOf211
  v46 := Tryz.zeroValue211
  t105 := Tryz.underlying307
  a105 := Tryz.isAgg307
  z105 := Tryz.sizeOf307
  v105 := Tryz.zeroValue307
  t116 := Tryz.underlying279
  a116 := Tryz.isAgg279
  z116 := Tryz.sizeOf279
  t117 := Tryz.underlying280
  a117 := Tryz.isAgg280
  z117 := Tryz.sizeOf280
  v117 := Tryz.zeroValue280
  t119 := Tryz.underlying333
  a119 := Tryz.isAgg333
  z119 := Tryz.sizeOf333
  t124 := Tryz.underlying283
  a124 := Tryz.isAgg283
  z124 := Tryz.sizeOf283
  v124 := Tryz.zeroValue283
  t138 := Tryz.underlying335
  a138 := Tryz.isAgg335
  z138 := Tryz.sizeOf335
  v138 := Tryz.zeroValue335
  t139 := Tryz.underlying336
  a139 := Tryz.isAgg336
  z139 := Tryz.sizeOf336
  v139 := Tryz.zeroValue336
  g3 := by kernel_rfl
  g4 := by kernel_rfl }
def Tryz.lays129_ren : Go.Shelf.Ren := ⟨fun | 129 => 234 | n => n, fun | 53 => 125 | 3 => 3 | 4 => 4 | 46 => 211 | 5 => 5 | 9 => 9 | n => n, fun | n => n⟩
theorem Tryz.lays129 : Go.Proofs.Lays.n129 Tryz.prog Tryz.lays129_ren := {
  mixed := by kernel_rfl
  f129 := Tryz.func234.trans (congrArg some (by kernel_rfl))
  t3 := Tryz.underlying3
  a3 := Tryz.isAgg3
  z3 := Tryz.sizeOf3
  v3 := Tryz.zeroValue3
  t4 := Tryz.underlying4
  a4 := Tryz.isAgg4
  z4 := Tryz.sizeOf4
  v4 := Tryz.zeroValue4
  t5 := Tryz.underlying5
  a5 := Tryz.isAgg5
  z5 := Tryz.sizeOf5
  v5 := Tryz.zeroValue5
  t9 := Tryz.underlying9
  a9 := Tryz.isAgg9
  z9 := Tryz.sizeOf9
  v9 := Tryz.zeroValue9
  t46 := Tryz.underlying211
  a46 := Tryz.isAgg211
  z46 := Tryz.sizeOf211
  v46 := Tryz.zeroValue211
  t53 := Tryz.underlying125
  a53 := Tryz.isAgg125
  z53 := Tryz.sizeOf125
  v53 := Tryz.zeroValue125 }
theorem Tryz.bits_Len64 (x : Int) (w : World) (h0 : 0 ≤ x) (h1 : x ≤ 18446744073709551615) :
    Calls Tryz.prog 234 #[.int .u64 x] w fun e w' => e = .returned (.int .i64 (Lib.bitLen x.toNat)) ∧ w' = w := Any.bits_Len64 Tryz.lays129 x w h0 h1
def Tryz.laysM171_ren : Go.Shelf.Ren := ⟨fun | 171 => 183 | 243 => 241 | 246 => 286 | 283 => 307 | 284 => 308 | 285 => 309 | 286 => 310 | 129 => 234 | 317 => 320 | 318 => 321 | 319 => 322 | 320 => 323 | 337 => 326 | 338 => 327 | n => n, fun | 3 => 3 | 9 => 9 | 2 => 2 | 4 => 4 | 171 => 317 | 0 => 0 | 53 => 125 | 37 => 60 | 5 => 5 | 173 => 319 | 212 => 331 | 51 => 215 | 20 => 20 | 213 => 332 | 46 => 211 | 232 => 337 | 233 => 338 | n => n, fun | 17 => 3 | 18 => 6 | 19 => 7 | n => n⟩
theorem Tryz.laysM171 : Go.Proofs.LaysM.n171 Tryz.prog Tryz.laysM171_ren := {
  mixed := by kernel_rfl
  f129 := Tryz.func234.trans (congrArg some (by kernel_rfl))
  f171 := Tryz.func183.trans (congrArg some (by kernel_rfl))
  f243 := Tryz.func241.trans (congrArg some (by kernel_rfl))
  f246 := Tryz.func286.trans (congrArg some (by kernel_rfl))
  f283 := Tryz.func307.trans (congrArg some (by kernel_rfl))
  f284 := Tryz.func308.trans (congrArg some (by kernel_rfl))
  f285 := Tryz.func309.trans (congrArg some (by kernel_rfl))
  f286 := Tryz.func310.trans (congrArg some (by kernel_rfl))
  f317 := Tryz.func320.trans (congrArg some (by kernel_rfl))
  f318 := Tryz.func321.trans (congrArg some (by kernel_rfl))
  f319 := Tryz.func322.trans (congrArg some (by kernel_rfl))
  f320 := Tryz.func323.trans (congrArg some (by kernel_rfl))
  f337 := Tryz.func326.trans (congrArg some (by kernel_rfl))
  f338 := Tryz.func327.trans (congrArg some (by kernel_rfl))
  t0 := Tryz.underlying0
  a0 := Tryz.isAgg0
  z0 := Tryz.sizeOf0
  v0 := Tryz.zeroValue0
  t2 := Tryz.underlying2
  a2 := Tryz.isAgg2
  z2 := Tryz.sizeOf2
  v2 := Tryz.zeroValue2
  t3 := Tryz.underlying3
  a3 := Tryz.isAgg3
  z3 := Tryz.sizeOf3
  v3 := Tryz.zeroValue3
  t4 := Tryz.underlying4
  a4 := Tryz.isAgg4
  z4 := Tryz.sizeOf4
  v4 := Tryz.zeroValue4
  t5 := Tryz.underlying5
  a5 := Tryz.isAgg5
  z5 := Tryz.sizeOf5
  v5 := Tryz.zeroValue5
  t9 := Tryz.underlying9
  a9 := Tryz.isAgg9
  z9 := Tryz.sizeOf9
  v9 := Tryz.zeroValue9
  t20 := Tryz.underlying20
  a20 := Tryz.isAgg20
  z20 := Tryz.sizeOf20
  v20 := Tryz.zeroValue20
  t37 := Tryz.underlying60
  a37 := Tryz.isAgg60
  z37 := Tryz.sizeOf60
  v37 := Tryz.zeroValue60
  t46 := Tryz.underlying211
  a46 := Tryz.isAgg211
  z46 := Tryz.sizeOf211
  v46 := Tryz.zeroValue211
  t51 := Tryz.underlying215
  a51 := Tryz.isAgg215
  z51 := Tryz.sizeOf215
  v51 := Tryz.zeroValue215
  t53 := Tryz.underlying125
  a53 := Tryz.isAgg125
  z53 := Tryz.sizeOf125
  v53 := Tryz.zeroValue125
  t171 := Tryz.underlying317
  a171 := Tryz.isAgg317
  z171 := Tryz.sizeOf317
  v171 := Tryz.zeroValue317
  t173 := Tryz.underlying319
  a173 := Tryz.isAgg319
  z173 := Tryz.sizeOf319
  v173 := Tryz.zeroValue319
  t212 := Tryz.underlying331
  a212 := Tryz.isAgg331
  z212 := Tryz.sizeOf331
  v212 := Tryz.zeroValue331
  t213 := Tryz.underlying332
  a213 := Tryz.isAgg332
  z213 := Tryz.sizeOf332
  t232 := Tryz.underlying337
  a232 := Tryz.isAgg337
  z232 := Tryz.sizeOf337
  v232 := Tryz.zeroValue337
  t233 := Tryz.underlying338
  a233 := Tryz.isAgg338
  z233 := Tryz.sizeOf338
  v233 := Tryz.zeroValue338
  g17 := by kernel_rfl
  g18 := by kernel_rfl
  g19 := by kernel_rfl
  i0 := by kernel_rfl
  i2 := by kernel_rfl
  i3 := by kernel_rfl
  i4 := by kernel_rfl
  i5 := by kernel_rfl
  i9 := by kernel_rfl
  i20 := by kernel_rfl
  i37 := by kernel_rfl
  i46 := by kernel_rfl
  i51 := by kernel_rfl
  i53 := by kernel_rfl
  i171 := by kernel_rfl
  i173 := by kernel_rfl
  i212 := by kernel_rfl
  i232 := by kernel_rfl
  i233 := by kernel_rfl
  m17 := by kernel_rfl
  m18 := by kernel_rfl
  m19 := by kernel_rfl }
def Tryz.laysC172_ren : Go.Shelf.Ren := ⟨fun | 172 => 182 | 244 => 239 | 245 => 240 | 247 => 281 | 279 => 282 | 280 => 283 | 281 => 284 | 282 => 285 | 287 => 288 | 316 => 305 | 171 => 183 | 205 => 306 | 321 => 312 | 322 => 313 | 243 => 241 | 246 => 286 | 283 => 307 | 284 => 308 | 285 => 309 | 286 => 310 | 129 => 234 | 317 => 320 | 318 => 321 | 319 => 322 | 320 => 323 | 337 => 326 | 338 => 327 | n => n, fun | 9 => 9 | 3 => 3 | 75 => 188 | 76 => 189 | 4 => 4 | 5 => 5 | 167 => 298 | 37 => 60 | 0 => 0 | 85 => 299 | 2 => 2 | 168 => 301 | 53 => 125 | 175 => 269 | 46 => 211 | 210 => 315 | 127 => 197 | 145 => 329 | 143 => 327 | 21 => 21 | 171 => 317 | 173 => 319 | 212 => 331 | 51 => 215 | 20 => 20 | 213 => 332 | 232 => 337 | 233 => 338 | 80 => 153 | n => n, fun | 15 => 1 | 16 => 2 | 17 => 3 | 18 => 6 | 19 => 7 | n => n⟩
theorem Tryz.laysC172 : Go.Proofs.LaysC.n172 Tryz.prog Tryz.laysC172_ren := {
  mixed := by kernel_rfl
  f129 := Tryz.func234.trans (congrArg some (by kernel_rfl))
  f171 := Tryz.func183.trans (congrArg some (by kernel_rfl))
  f172 := Tryz.func182.trans (congrArg some (by kernel_rfl))
  f205 := Tryz.func306.trans (congrArg some (by kernel_rfl))
  f243 := Tryz.func241.trans (congrArg some (by kernel_rfl))
  f244 := Tryz.func239.trans (congrArg some (by kernel_rfl))
  f245 := Tryz.func240.trans (congrArg some (by kernel_rfl))
  f246 := Tryz.func286.trans (congrArg some (by kernel_rfl))
  f247 := Tryz.func281.trans (congrArg some (by kernel_rfl))
  f279 := Tryz.func282.trans (congrArg some (by kernel_rfl))
  f280 := Tryz.func283.trans (congrArg some (by kernel_rfl))
  f281 := Tryz.func284.trans (congrArg some (by kernel_rfl))
  f282 := Tryz.func285.trans (congrArg some (by kernel_rfl))
  f283 := Tryz.func307.trans (congrArg some (by kernel_rfl))
  f284 := Tryz.func308.trans (congrArg some (by kernel_rfl))
  f285 := Tryz.func309.trans (congrArg some (by kernel_rfl))
  f286 := Tryz.func310.trans (congrArg some (by kernel_rfl))
  f287 := Tryz.func288.trans (congrArg some (by kernel_rfl))
  f316 := Tryz.func305.trans (congrArg some (by kernel_rfl))
  f317 := Tryz.func320.trans (congrArg some (by kernel_rfl))
  f318 := Tryz.func321.trans (congrArg some (by kernel_rfl))
  f319 := Tryz.func322.trans (congrArg some (by kernel_rfl))
  f320 := Tryz.func323.trans (congrArg some (by kernel_rfl))
  f321 := Tryz.func312.trans (congrArg some (by kernel_rfl))
  f322 := Tryz.func313.trans (congrArg some (by kernel_rfl))
  f337 := Tryz.func326.trans (congrArg some (by kernel_rfl))
  f338 := Tryz.func327.trans (congrArg some (by kernel_rfl))
  t0 := Tryz.underlying0
  a0 := Tryz.isAgg0
  z0 := Tryz.sizeOf0
  v0 := Tryz.zeroValue0
  t2 := Tryz.underlying2
  a2 := Tryz.isAgg2
  z2 := Tryz.sizeOf2
  v2 := Tryz.zeroValue2
  t3 := Tryz.underlying3
  a3 := Tryz.isAgg3
  z3 := Tryz.sizeOf3
  v3 := Tryz.zeroValue3
  t4 := Tryz.underlying4
  a4 := Tryz.isAgg4
  z4 := Tryz.sizeOf4
  v4 := Tryz.zeroValue4
  t5 := Tryz.underlying5
  a5 := Tryz.isAgg5
  z5 := Tryz.sizeOf5
  v5 := Tryz.zeroValue5
  t9 := Tryz.underlying9
  a9 := Tryz.isAgg9
  z9 := Tryz.sizeOf9
  v9 := Tryz.zeroValue9
  t20 := Tryz.underlying20
  a20 := Tryz.isAgg20
  z20 := Tryz.sizeOf20
  v20 := Tryz.zeroValue20
  t21 := Tryz.underlying21
  a21 := Tryz.isAgg21
  z21 := Tryz.sizeOf21
  v21 := Tryz.zeroValue21
  t37 := Tryz.underlying60
  a37 := Tryz.isAgg60
  z37 := Tryz.sizeOf60
  v37 := Tryz.zeroValue60
  t46 := Tryz.underlying211
  a46 := Tryz.isAgg211
  z46 := Tryz.sizeOf211
  v46 := Tryz.zeroValue211
  t51 := Tryz.underlying215
  a51 := Tryz.isAgg215
  z51 := Tryz.sizeOf215
  v51 := Tryz.zeroValue215
  t53 := Tryz.underlying125
  a53 := Tryz.isAgg125
  z53 := Tryz.sizeOf125
  v53 := Tryz.zeroValue125
  t75 := Tryz.underlying188
  a75 := Tryz.isAgg188
  z75 := Tryz.sizeOf188
  v75 := Tryz.zeroValue188
  t76 := Tryz.underlying189
  a76 := Tryz.isAgg189
  z76 := Tryz.sizeOf189
  v76 := Tryz.zeroValue189
  t85 := Tryz.underlying299
  a85 := Tryz.isAgg299
  z85 := Tryz.sizeOf299
  v85 := Tryz.zeroValue299
  t127 := Tryz.underlying197
  a127 := Tryz.isAgg197
  z127 := Tryz.sizeOf197
  v127 := Tryz.zeroValue197
  t143 := Tryz.underlying327
  a143 := Tryz.isAgg327
  z143 := Tryz.sizeOf327
  v143 := Tryz.zeroValue327
  t145 := Tryz.underlying329
  a145 := Tryz.isAgg329
  z145 := Tryz.sizeOf329
  v145 := Tryz.zeroValue329
  t167 := Tryz.underlying298
  a167 := Tryz.isAgg298
  z167 := Tryz.sizeOf298
  v167 := Tryz.zeroValue298
  t168 := Tryz.underlying301
  a168 := Tryz.isAgg301
  z168 := Tryz.sizeOf301
  v168 := Tryz.zeroValue301
  t171 := Tryz.underlying317
  a171 := Tryz.isAgg317
  z171 := Tryz.sizeOf317
  v171 := Tryz.zeroValue317
  t173 := Tryz.underlying319
  a173 := Tryz.isAgg319
  z173 := Tryz.sizeOf319
  v173 := Tryz.zeroValue319
  t175 := Tryz.underlying269
  a175 := Tryz.isAgg269
  z175 := Tryz.sizeOf269
  v175 := Tryz.zeroValue269
  t210 := Tryz.underlying315
  a210 := Tryz.isAgg315
  z210 := Tryz.sizeOf315
  v210 := Tryz.zeroValue315
  t212 := Tryz.underlying331
  a212 := Tryz.isAgg331
  z212 := Tryz.sizeOf331
  v212 := Tryz.zeroValue331
  t213 := Tryz.underlying332
  a213 := Tryz.isAgg332
  z213 := Tryz.sizeOf332
  t232 := Tryz.underlying337
  a232 := Tryz.isAgg337
  z232 := Tryz.sizeOf337
  v232 := Tryz.zeroValue337
  t233 := Tryz.underlying338
  a233 := Tryz.isAgg338
  z233 := Tryz.sizeOf338
  v233 := Tryz.zeroValue338
  g15 := by kernel_rfl
  g16 := by kernel_rfl
  g17 := by kernel_rfl
  g18 := by kernel_rfl
  g19 := by kernel_rfl
  t80 := Tryz.underlying153
  a80 := Tryz.isAgg153
  z80 := Tryz.sizeOf153
  v80 := Tryz.zeroValue153
  i0 := by kernel_rfl
  i2 := by kernel_rfl
  i3 := by kernel_rfl
  i4 := by kernel_rfl
  i5 := by kernel_rfl
  i9 := by kernel_rfl
  i20 := by kernel_rfl
  i21 := by kernel_rfl
  i37 := by kernel_rfl
  i46 := by kernel_rfl
  i51 := by kernel_rfl
  i53 := by kernel_rfl
  i75 := by kernel_rfl
  i76 := by kernel_rfl
  i80 := by kernel_rfl
  i85 := by kernel_rfl
  i127 := by kernel_rfl
  i143 := by kernel_rfl
  i145 := by kernel_rfl
  i167 := by kernel_rfl
  i168 := by kernel_rfl
  i171 := by kernel_rfl
  i173 := by kernel_rfl
  i175 := by kernel_rfl
  i210 := by kernel_rfl
  i212 := by kernel_rfl
  i232 := by kernel_rfl
  i233 := by kernel_rfl
  m15 := by kernel_rfl
  m16 := by kernel_rfl
  m17 := by kernel_rfl
  m18 := by kernel_rfl
  m19 := by kernel_rfl
  c0 := by kernel_rfl
  c2 := by kernel_rfl
  c3 := by kernel_rfl
  c4 := by kernel_rfl
  c5 := by kernel_rfl
  c9 := by kernel_rfl
  c20 := by kernel_rfl
  c21 := by kernel_rfl
  c37 := by kernel_rfl
  c46 := by kernel_rfl
  c51 := by kernel_rfl
  c53 := by kernel_rfl
  c75 := by kernel_rfl
  c76 := by kernel_rfl
  c80 := by kernel_rfl
  c85 := by kernel_rfl
  c127 := by kernel_rfl
  c143 := by kernel_rfl
  c145 := by kernel_rfl
  c167 := by kernel_rfl
  c168 := by kernel_rfl
  c171 := by kernel_rfl
  c173 := by kernel_rfl
  c175 := by kernel_rfl
  c210 := by kernel_rfl
  c212 := by kernel_rfl
  c213 := by kernel_rfl
  c232 := by kernel_rfl
  c233 := by kernel_rfl }
open Go.RowKit in
theorem Tryz.strconv_Atoi_ok (s : ByteArray) (hmax : s.size ≤ 9223372036854775806) (v : Int) (h : Lib.atoiAll s.data.toList = .ok v) (w : World) :
    Calls Tryz.prog 182 #[.string s] w fun e w' => e = .returned (.tuple #[.int .i64 v, .nilIface]) ∧ (w' = w ∨ ∃ t, w' = Lib.bytesWorld w 5 t) := Any.strconv_Atoi_ok Tryz.laysC172 s hmax v h w
def Tryz.laysPu14_ren : Go.Shelf.Ren := ⟨fun | 14 => 246 | 16 => 288 | 17 => 240 | 19 => 312 | 20 => 313 | 21 => 282 | 22 => 283 | 23 => 284 | 24 => 285 | 25 => 305 | 27 => 183 | 26 => 306 | 28 => 241 | 29 => 286 | 30 => 307 | 31 => 308 | 32 => 309 | 33 => 310 | 35 => 234 | 34 => 320 | 36 => 321 | 37 => 322 | 38 => 323 | 39 => 326 | 40 => 327 | n => n, fun | 9 => 9 | 3 => 3 | 22 => 125 | 24 => 188 | 25 => 269 | 4 => 4 | 34 => 298 | 5 => 5 | 36 => 211 | 37 => 60 | 0 => 0 | 39 => 301 | 21 => 21 | 44 => 315 | 47 => 197 | 50 => 329 | 48 => 327 | 2 => 2 | 52 => 317 | 55 => 319 | 59 => 331 | 60 => 215 | 20 => 20 | 61 => 332 | 65 => 337 | 66 => 338 | 67 => 153 | n => n, fun | 0 => 1 | 1 => 2 | 2 => 3 | 3 => 6 | 4 => 7 | n => n⟩
theorem Tryz.laysPu14 : Go.Proofs.LaysPu.n14 Tryz.prog Tryz.laysPu14_ren := {
  mixed := by kernel_rfl
  f14 := Tryz.func246.trans (congrArg some (by kernel_rfl))
  f16 := Tryz.func288.trans (congrArg some (by kernel_rfl))
  f17 := Tryz.func240.trans (congrArg some (by kernel_rfl))
  f19 := Tryz.func312.trans (congrArg some (by kernel_rfl))
  f20 := Tryz.func313.trans (congrArg some (by kernel_rfl))
  f21 := Tryz.func282.trans (congrArg some (by kernel_rfl))
  f22 := Tryz.func283.trans (congrArg some (by kernel_rfl))
  f23 := Tryz.func284.trans (congrArg some (by kernel_rfl))
  f24 := Tryz.func285.trans (congrArg some (by kernel_rfl))
  f25 := Tryz.func305.trans (congrArg some (by kernel_rfl))
  f26 := Tryz.func306.trans (congrArg some (by kernel_rfl))
  f27 := Tryz.func183.trans (congrArg some (by kernel_rfl))
  f28 := Tryz.func241.trans (congrArg some (by kernel_rfl))
  f29 := Tryz.func286.trans (congrArg some (by kernel_rfl))
  f30 := Tryz.func307.trans (congrArg some (by kernel_rfl))
  f31 := Tryz.func308.trans (congrArg some (by kernel_rfl))
  f32 := Tryz.func309.trans (congrArg some (by kernel_rfl))
  f33 := Tryz.func310.trans (congrArg some (by kernel_rfl))
  f34 := Tryz.func320.trans (congrArg some (by kernel_rfl))
  f35 := Tryz.func234.trans (congrArg some (by kernel_rfl))
  f36 := Tryz.func321.trans (congrArg some (by kernel_rfl))
  f37 := Tryz.func322.trans (congrArg some (by kernel_rfl))
  f38 := Tryz.func323.trans (congrArg some (by kernel_rfl))
  f39 := Tryz.func326.trans (congrArg some (by kernel_rfl))
  f40 := Tryz.func327.trans (congrArg some (by kernel_rfl))
  t0 := Tryz.underlying0
  a0 := Tryz.isAgg0
  z0 := Tryz.sizeOf0
  v0 := Tryz.zeroValue0
  i0 := by kernel_rfl
  t2 := Tryz.underlying2
  a2 := Tryz.isAgg2
  z2 := Tryz.sizeOf2
  v2 := Tryz.zeroValue2
  i2 := by kernel_rfl
  t3 := Tryz.underlying3
  a3 := Tryz.isAgg3
  z3 := Tryz.sizeOf3
  v3 := Tryz.zeroValue3
  i3 := by kernel_rfl
  t4 := Tryz.underlying4
  a4 := Tryz.isAgg4
  z4 := Tryz.sizeOf4
  v4 := Tryz.zeroValue4
  i4 := by kernel_rfl
  t5 := Tryz.underlying5
  a5 := Tryz.isAgg5
  z5 := Tryz.sizeOf5
  v5 := Tryz.zeroValue5
  i5 := by kernel_rfl
  t9 := Tryz.underlying9
  a9 := Tryz.isAgg9
  z9 := Tryz.sizeOf9
  v9 := Tryz.zeroValue9
  i9 := by kernel_rfl
  t20 := Tryz.underlying20
  a20 := Tryz.isAgg20
  z20 := Tryz.sizeOf20
  v20 := Tryz.zeroValue20
  i20 := by kernel_rfl
  t21 := Tryz.underlying21
  a21 := Tryz.isAgg21
  z21 := Tryz.sizeOf21
  v21 := Tryz.zeroValue21
  i21 := by kernel_rfl
  t22 := Tryz.underlying125
  a22 := Tryz.isAgg125
  z22 := Tryz.sizeOf125
  v22 := Tryz.zeroValue125
  i22 := by kernel_rfl
  t24 := Tryz.underlying188
  a24 := Tryz.isAgg188
  z24 := Tryz.sizeOf188
  v24 := Tryz.zeroValue188
  i24 := by kernel_rfl
  t25 := Tryz.underlying269
  a25 := Tryz.isAgg269
  z25 := Tryz.sizeOf269
  v25 := Tryz.zeroValue269
  i25 := by kernel_rfl
  t34 := Tryz.underlying298
  a34 := Tryz.isAgg298
  z34 := Tryz.sizeOf298
  v34 := Tryz.zeroValue298
  i34 := by kernel_rfl
  c34 := by kernel_rfl
  t36 := Tryz.underlying211
  a36 := Tryz.isAgg211
  z36 := Tryz.sizeOf211
  v36 := Tryz.zeroValue211
  i36 := by kernel_rfl
  t37 := Tryz.underlying60
  a37 := Tryz.isAgg60
  z37 := Tryz.sizeOf60
  v37 := Tryz.zeroValue60
  i37 := by kernel_rfl
  t39 := Tryz.underlying301
  a39 := Tryz.isAgg301
  z39 := Tryz.sizeOf301
  v39 := Tryz.zeroValue301
  i39 := by kernel_rfl
  t44 := Tryz.underlying315
  a44 := Tryz.isAgg315
  z44 := Tryz.sizeOf315
  v44 := Tryz.zeroValue315
  i44 := by kernel_rfl
  t47 := Tryz.underlying197
  a47 := Tryz.isAgg197
  z47 := Tryz.sizeOf197
  v47 := Tryz.zeroValue197
  i47 := by kernel_rfl
  t48 := Tryz.underlying327
  a48 := Tryz.isAgg327
  z48 := Tryz.sizeOf327
  v48 := Tryz.zeroValue327
  i48 := by kernel_rfl
  t50 := Tryz.underlying329
  a50 := Tryz.isAgg329
  z50 := Tryz.sizeOf329
  v50 := Tryz.zeroValue329
  i50 := by kernel_rfl
  t52 := Tryz.underlying317
  a52 := Tryz.isAgg317
  z52 := Tryz.sizeOf317
  v52 := Tryz.zeroValue317
  i52 := by kernel_rfl
  t55 := Tryz.underlying319
  a55 := Tryz.isAgg319
  z55 := Tryz.sizeOf319
  v55 := Tryz.zeroValue319
  i55 := by kernel_rfl
  t59 := Tryz.underlying331
  a59 := Tryz.isAgg331
  z59 := Tryz.sizeOf331
  v59 := Tryz.zeroValue331
  i59 := by kernel_rfl
  t60 := Tryz.underlying215
  a60 := Tryz.isAgg215
  z60 := Tryz.sizeOf215
  v60 := Tryz.zeroValue215
  i60 := by kernel_rfl
  t61 := Tryz.underlying332
  a61 := Tryz.isAgg332
  z61 := Tryz.sizeOf332
  t65 := Tryz.underlying337
  a65 := Tryz.isAgg337
  z65 := Tryz.sizeOf337
  v65 := Tryz.zeroValue337
  i65 := by kernel_rfl
  t66 := Tryz.underlying338
  a66 := Tryz.isAgg338
  z66 := Tryz.sizeOf338
  v66 := Tryz.zeroValue338
  i66 := by kernel_rfl
  t67 := Tryz.underlying153
  a67 := Tryz.isAgg153
  z67 := Tryz.sizeOf153
  v67 := Tryz.zeroValue153
  i67 := by kernel_rfl
  g0 := by kernel_rfl
  m0 := by kernel_rfl
  g1 := by kernel_rfl
  m1 := by kernel_rfl
  g2 := by kernel_rfl
  m2 := by kernel_rfl
  g3 := by kernel_rfl
  m3 := by kernel_rfl
  g4 := by kernel_rfl
  m4 := by kernel_rfl }
open Go.RowKit in
theorem Tryz.strconv_ParseUint_10_at8_ok (s : ByteArray) (hmax : s.size ≤ 9223372036854775806) (u : Nat) (h : Lib.parseUintB 8 s.data.toList = .ok u) (w : World) :
    Calls Tryz.prog 246 #[.string s, .int .i64 10, .int .i64 8] w fun e w' => e = .returned (.tuple #[.int .u64 u, .nilIface]) ∧ (w' = w ∨ w' = Lib.bytesWorld w 5 s) := Any.strconv_ParseUint_10_at8_ok Tryz.laysPu14 s hmax u h w
def Tryz.laysM144_ren : Go.Shelf.Ren := ⟨fun | 144 => 185 | 143 => 245 | 219 => 280 | 217 => 301 | 225 => 302 | 224 => 303 | 267 => 304 | 266 => 318 | 314 => 319 | n => n, fun | 9 => 9 | 4 => 4 | 3 => 3 | 5 => 5 | 46 => 211 | 146 => 325 | 51 => 215 | n => n, fun | 1 => 0 | n => n⟩
theorem Tryz.laysM144 : Go.Proofs.LaysM.n144 Tryz.prog Tryz.laysM144_ren := {
  mixed := by kernel_rfl
  f143 := Tryz.func245.trans (congrArg some (by kernel_rfl))
  f144 := Tryz.func185.trans (congrArg some (by kernel_rfl))
  f217 := Tryz.func301.trans (congrArg some (by kernel_rfl))
  f219 := Tryz.func280.trans (congrArg some (by kernel_rfl))
  f224 := Tryz.func303.trans (congrArg some (by kernel_rfl))
  f225 := Tryz.func302.trans (congrArg some (by kernel_rfl))
  f266 := Tryz.func318.trans (congrArg some (by kernel_rfl))
  f267 := Tryz.func304.trans (congrArg some (by kernel_rfl))
  f314 := Tryz.func319.trans (congrArg some (by kernel_rfl))
  t3 := Tryz.underlying3
  a3 := Tryz.isAgg3
  z3 := Tryz.sizeOf3
  v3 := Tryz.zeroValue3
  t4 := Tryz.underlying4
  a4 := Tryz.isAgg4
  z4 := Tryz.sizeOf4
  v4 := Tryz.zeroValue4
  t5 := Tryz.underlying5
  a5 := Tryz.isAgg5
  z5 := Tryz.sizeOf5
  v5 := Tryz.zeroValue5
  t9 := Tryz.underlying9
  a9 := Tryz.isAgg9
  z9 := Tryz.sizeOf9
  v9 := Tryz.zeroValue9
  t46 := Tryz.underlying211
  a46 := Tryz.isAgg211
  z46 := Tryz.sizeOf211
  v46 := Tryz.zeroValue211
  t51 := Tryz.underlying215
  a51 := Tryz.isAgg215
  z51 := Tryz.sizeOf215
  v51 := Tryz.zeroValue215
  t146 := Tryz.underlying325
  a146 := Tryz.isAgg325
  z146 := Tryz.sizeOf325
  v146 := Tryz.zeroValue325
  g1 := by kernel_rfl
  i3 := by kernel_rfl
  i4 := by kernel_rfl
  i5 := by kernel_rfl
  i9 := by kernel_rfl
  i46 := by kernel_rfl
  i51 := by kernel_rfl
  i146 := by kernel_rfl
  m1 := by kernel_rfl
  s1_3 := fun w h => Go.Proofs.cell_of_shapedOpen_int (zero := #[.int .i64 0]) (t := 3) h (of_decide_eq_true (by kernel_rfl)) (by kernel_rfl) rfl (by kernel_rfl) (by kernel_rfl) Tryz.underlying3 }
open Go.RowKit Go.Lib in
theorem Tryz.strings_Contains_shaped (s sub : ByteArray) (w : World) (h : w.ShapedOpen Tryz.prog) (hs : s.size < 4294967281) :
    Calls Tryz.prog 185 #[.string s, .string sub] w fun e w' => e = .returned (.bool (Lib.contains s.data.toList sub.data.toList)) ∧ w' = w := Any.strings_Contains_shaped Tryz.laysM144 s sub w h hs
def Tryz.laysM145_ren : Go.Shelf.Ren := ⟨fun | 145 => 181 | 220 => 238 | 219 => 280 | 217 => 301 | 225 => 302 | 224 => 303 | 267 => 304 | 266 => 318 | 314 => 319 | n => n, fun | 9 => 9 | 4 => 4 | 59 => 213 | 3 => 3 | 5 => 5 | 46 => 211 | 146 => 325 | 51 => 215 | n => n, fun | 1 => 0 | n => n⟩
theorem Tryz.laysM145 : Go.Proofs.LaysM.n145 Tryz.prog Tryz.laysM145_ren := {
  mixed := by kernel_rfl
  f145 := Tryz.func181.trans (congrArg some (by kernel_rfl))
  f217 := Tryz.func301.trans (congrArg some (by kernel_rfl))
  f219 := Tryz.func280.trans (congrArg some (by kernel_rfl))
  f220 := Tryz.func238.trans (congrArg some (by kernel_rfl))
  f224 := Tryz.func303.trans (congrArg some (by kernel_rfl))
  f225 := Tryz.func302.trans (congrArg some (by kernel_rfl))
  f266 := Tryz.func318.trans (congrArg some (by kernel_rfl))
  f267 := Tryz.func304.trans (congrArg some (by kernel_rfl))
  f314 := Tryz.func319.trans (congrArg some (by kernel_rfl))
  t3 := Tryz.underlying3
  a3 := Tryz.isAgg3
  z3 := Tryz.sizeOf3
  v3 := Tryz.zeroValue3
  t4 := Tryz.underlying4
  a4 := Tryz.isAgg4
  z4 := Tryz.sizeOf4
  v4 := Tryz.zeroValue4
  t5 := Tryz.underlying5
  a5 := Tryz.isAgg5
  z5 := Tryz.sizeOf5
  v5 := Tryz.zeroValue5
  t9 := Tryz.underlying9
  a9 := Tryz.isAgg9
  z9 := Tryz.sizeOf9
  v9 := Tryz.zeroValue9
  t46 := Tryz.underlying211
  a46 := Tryz.isAgg211
  z46 := Tryz.sizeOf211
  v46 := Tryz.zeroValue211
  t51 := Tryz.underlying215
  a51 := Tryz.isAgg215
  z51 := Tryz.sizeOf215
  v51 := Tryz.zeroValue215
  t59 := Tryz.underlying213
  a59 := Tryz.isAgg213
  z59 := Tryz.sizeOf213
  v59 := Tryz.zeroValue213
  t146 := Tryz.underlying325
  a146 := Tryz.isAgg325
  z146 := Tryz.sizeOf325
  v146 := Tryz.zeroValue325
  g1 := by kernel_rfl
  i3 := by kernel_rfl
  i4 := by kernel_rfl
  i5 := by kernel_rfl
  i9 := by kernel_rfl
  i46 := by kernel_rfl
  i51 := by kernel_rfl
  i59 := by kernel_rfl
  i146 := by kernel_rfl
  m1 := by kernel_rfl
  s1_3 := fun w h => Go.Proofs.cell_of_shapedOpen_int (zero := #[.int .i64 0]) (t := 3) h (of_decide_eq_true (by kernel_rfl)) (by kernel_rfl) rfl (by kernel_rfl) (by kernel_rfl) Tryz.underlying3 }
open Go.RowKit Go.Lib in
theorem Tryz.strings_Cut_shaped (s sep : ByteArray) (w : World) (h : w.ShapedOpen Tryz.prog) (hs : s.size < 4294967281) :
    Calls Tryz.prog 181 #[.string s, .string sep] w fun e w' => e = .returned (.tuple #[.string ⟨(Lib.cut s.data.toList sep.data.toList).1.toArray⟩, .string ⟨(Lib.cut s.data.toList sep.data.toList).2.1.toArray⟩, .bool (Lib.cut s.data.toList sep.data.toList).2.2]) ∧ ∃ n, w' = w.drewN n := Any.strings_Cut_shaped Tryz.laysM145 s sep w h hs
def Tryz.laysM146_ren : Go.Shelf.Ren := ⟨fun | 146 => 143 | 221 => 195 | 268 => 256 | 138 => 257 | 143 => 245 | 195 => 290 | 197 => 291 | 218 => 292 | 219 => 280 | 260 => 314 | 217 => 301 | 225 => 302 | 224 => 303 | 267 => 304 | 266 => 318 | 314 => 319 | n => n, fun | 9 => 9 | 31 => 22 | 3 => 3 | 4 => 4 | 0 => 0 | 105 => 307 | 21 => 21 | 5 => 5 | 46 => 211 | 119 => 333 | 139 => 336 | 138 => 335 | 146 => 325 | 51 => 215 | n => n, fun | 1 => 0 | 3 => 4 | 4 => 5 | n => n⟩
theorem Tryz.laysM146 : Go.Proofs.LaysM.n146 Tryz.prog Tryz.laysM146_ren := {
  mixed := by kernel_rfl
  f138 := Tryz.func257.trans (congrArg some (by kernel_rfl))
  f143 := Tryz.func245.trans (congrArg some (by kernel_rfl))
  f146 := Tryz.func143.trans (congrArg some (by kernel_rfl))
  f195 := Tryz.func290.trans (congrArg some (by kernel_rfl))
  f197 := Tryz.func291.trans (congrArg some (by kernel_rfl))
  f217 := Tryz.func301.trans (congrArg some (by kernel_rfl))
  f218 := Tryz.func292.trans (congrArg some (by kernel_rfl))
  f219 := Tryz.func280.trans (congrArg some (by kernel_rfl))
  f221 := Tryz.func195.trans (congrArg some (by kernel_rfl))
  f224 := Tryz.func303.trans (congrArg some (by kernel_rfl))
  f225 := Tryz.func302.trans (congrArg some (by kernel_rfl))
  f260 := Tryz.func314.trans (congrArg some (by kernel_rfl))
  f266 := Tryz.func318.trans (congrArg some (by kernel_rfl))
  f267 := Tryz.func304.trans (congrArg some (by kernel_rfl))
  f268 := Tryz.func256.trans (congrArg some (by kernel_rfl))
  f314 := Tryz.func319.trans (congrArg some (by kernel_rfl))
  t0 := Tryz.underlying0
  a0 := Tryz.isAgg0
  z0 := Tryz.sizeOf0
  v0 := Tryz.zeroValue0
  t3 := Tryz.underlying3
  a3 := Tryz.isAgg3
  z3 := Tryz.sizeOf3
  v3 := Tryz.zeroValue3
  t4 := Tryz.underlying4
  a4 := Tryz.isAgg4
  z4 := Tryz.sizeOf4
  v4 := Tryz.zeroValue4
  t5 := Tryz.underlying5
  a5 := Tryz.isAgg5
  z5 := Tryz.sizeOf5
  v5 := Tryz.zeroValue5
  t9 := Tryz.underlying9
  a9 := Tryz.isAgg9
  z9 := Tryz.sizeOf9
  v9 := Tryz.zeroValue9
  t21 := Tryz.underlying21
  a21 := Tryz.isAgg21
  z21 := Tryz.sizeOf21
  v21 := Tryz.zeroValue21
  t31 := Tryz.underlying22
  a31 := Tryz.isAgg22
  z31 := Tryz.sizeOf22
  v31 := Tryz.zeroValue22
  t46 := Tryz.underlying211
  a46 := Tryz.isAgg211
  z46 := Tryz.sizeOf211
  v46 := Tryz.zeroValue211
  t51 := Tryz.underlying215
  a51 := Tryz.isAgg215
  z51 := Tryz.sizeOf215
  v51 := Tryz.zeroValue215
  t105 := Tryz.underlying307
  a105 := Tryz.isAgg307
  z105 := Tryz.sizeOf307
  v105 := Tryz.zeroValue307
  t119 := Tryz.underlying333
  a119 := Tryz.isAgg333
  z119 := Tryz.sizeOf333
  t138 := Tryz.underlying335
  a138 := Tryz.isAgg335
  z138 := Tryz.sizeOf335
  v138 := Tryz.zeroValue335
  t139 := Tryz.underlying336
  a139 := Tryz.isAgg336
  z139 := Tryz.sizeOf336
  v139 := Tryz.zeroValue336
  t146 := Tryz.underlying325
  a146 := Tryz.isAgg325
  z146 := Tryz.sizeOf325
  v146 := Tryz.zeroValue325
  g1 := by kernel_rfl
  g3 := by kernel_rfl
  g4 := by kernel_rfl
  i0 := by kernel_rfl
  i3 := by kernel_rfl
  i4 := by kernel_rfl
  i5 := by kernel_rfl
  i9 := by kernel_rfl
  i21 := by kernel_rfl
  i31 := by kernel_rfl
  i46 := by kernel_rfl
  i51 := by kernel_rfl
  i105 := by kernel_rfl
  i138 := by kernel_rfl
  i139 := by kernel_rfl
  i146 := by kernel_rfl
  m1 := by kernel_rfl
  s1_3 := fun w h => Go.Proofs.cell_of_shapedOpen_int (zero := #[.int .i64 0]) (t := 3) h (of_decide_eq_true (by kernel_rfl)) (by kernel_rfl) rfl (by kernel_rfl) (by kernel_rfl) Tryz.underlying3
  m3 := by kernel_rfl
  m4 := by kernel_rfl }
open Go.RowKit Go.Lib in
theorem Tryz.strings_Split_shaped (s sep : ByteArray) (w : World) (h : w.ShapedOpen Tryz.prog) (hs : s.size < 4294967281) (h1 : 1 ≤ sep.size) :
    Calls Tryz.prog 143 #[.string s, .string sep] w fun e w' =>
      e = .returned (.slice (some ⟨w.heap.size, 0, none⟩) (Lib.countB s sep + 1) (Lib.countB s sep + 1)) ∧ w' = w.alloc (.cells ((Lib.splitB sep 0 (Lib.countB s sep) s).map Value.string).toArray 9) := Any.strings_Split_shaped Tryz.laysM146 s sep w h hs h1
def Tryz.laysNm215_ren : Go.Shelf.Ren := ⟨fun | 15 => 66 | n => n, fun | 22 => 24 | 3 => 3 | 4 => 4 | n => n, fun | n => n⟩
theorem Tryz.laysNm215 : Go.Proofs.Lays2.n15 Tryz.prog Tryz.laysNm215_ren := {
  mixed := by kernel_rfl
  f15 := Tryz.func66.trans (congrArg some (by kernel_rfl))
  t3 := Tryz.underlying3
  a3 := Tryz.isAgg3
  z3 := Tryz.sizeOf3
  v3 := Tryz.zeroValue3
  t4 := Tryz.underlying4
  a4 := Tryz.isAgg4
  z4 := Tryz.sizeOf4
  v4 := Tryz.zeroValue4
  t22 := Tryz.underlying24
  a22 := Tryz.isAgg24
  z22 := Tryz.sizeOf24
  v22 := Tryz.zeroValue24
  i3 := by kernel_rfl }
open Go.RowKit Go.Lib in
theorem Tryz.slices_Clone_int (b off n c : Nat) (zs : List Int) (w : World) (hz : n ≤ zs.length) (hbig : n * 8 ≤ 140737488355328) (hc : ∀ j, j < zs.length → w.cell? ⟨b, off + j, none⟩ = some (.int .i64 (zs.getD j 0))) :
    Calls Tryz.prog 66 #[.slice (some ⟨b, off, none⟩) n c] w fun e w' => ∃ v', e = .returned v' ∧ w'.ownsRow w.heap.size 3 1 v' n ((zs.take n).map (Value.int .i64)) ∧ v' ≠ .slice none 0 0 ∧ Below w.heap.size w w' := Any.slices_Clone_int Tryz.laysNm215 b off n c zs w hz hbig hc
open Go.RowKit Go.Lib in
theorem Tryz.slices_Clone_int_nil (n c : Nat) (w : World) :
    Calls Tryz.prog 66 #[.slice none n c] w fun e w' => e = .returned (.slice none 0 0) ∧ w' = w := Any.slices_Clone_int_nil Tryz.laysNm215 n c w
def Tryz.laysNm216_ren : Go.Shelf.Ren := ⟨fun | 16 => 64 | n => n, fun | 24 => 22 | 9 => 9 | 4 => 4 | n => n, fun | n => n⟩
theorem Tryz.laysNm216 : Go.Proofs.Lays2.n16 Tryz.prog Tryz.laysNm216_ren := {
  mixed := by kernel_rfl
  f16 := Tryz.func64.trans (congrArg some (by kernel_rfl))
  t4 := Tryz.underlying4
  a4 := Tryz.isAgg4
  z4 := Tryz.sizeOf4
  v4 := Tryz.zeroValue4
  t9 := Tryz.underlying9
  a9 := Tryz.isAgg9
  z9 := Tryz.sizeOf9
  v9 := Tryz.zeroValue9
  t24 := Tryz.underlying22
  a24 := Tryz.isAgg22
  z24 := Tryz.sizeOf22
  v24 := Tryz.zeroValue22
  i9 := by kernel_rfl }
open Go.RowKit Go.Lib in
theorem Tryz.slices_Clone_string (b off n c : Nat) (zs : List ByteArray) (w : World) (hz : n ≤ zs.length) (hbig : n * 16 ≤ 140737488355328) (hc : ∀ j, j < zs.length → w.cell? ⟨b, off + j, none⟩ = some (.string (zs.getD j ByteArray.empty))) :
    Calls Tryz.prog 64 #[.slice (some ⟨b, off, none⟩) n c] w fun e w' => ∃ v', e = .returned v' ∧ w'.ownsRow w.heap.size 9 1 v' n ((zs.take n).map (Value.string)) ∧ v' ≠ .slice none 0 0 ∧ Below w.heap.size w w' := Any.slices_Clone_string Tryz.laysNm216 b off n c zs w hz hbig hc
open Go.RowKit Go.Lib in
theorem Tryz.slices_Clone_string_nil (n c : Nat) (w : World) :
    Calls Tryz.prog 64 #[.slice none n c] w fun e w' => e = .returned (.slice none 0 0) ∧ w' = w := Any.slices_Clone_string_nil Tryz.laysNm216 n c w
open Go.RowKit Go.Lib in
theorem Tryz.slices_Clone_int_zero (a : Addr) (c : Nat) (w : World) :
    Calls Tryz.prog 66 #[.slice (some a) 0 c] w fun e w' => ∃ v', e = .returned v' ∧ w'.ownsRow w.heap.size 3 1 v' 0 [] ∧ v' ≠ .slice none 0 0 ∧ Below w.heap.size w w' := Any.slices_Clone_int_zero Tryz.laysNm215 a c w
open Go.RowKit Go.Lib in
theorem Tryz.slices_Clone_string_zero (a : Addr) (c : Nat) (w : World) :
    Calls Tryz.prog 64 #[.slice (some a) 0 c] w fun e w' => ∃ v', e = .returned v' ∧ w'.ownsRow w.heap.size 9 1 v' 0 [] ∧ v' ≠ .slice none 0 0 ∧ Below w.heap.size w w' := Any.slices_Clone_string_zero Tryz.laysNm216 a c w
end Go.Proofs
