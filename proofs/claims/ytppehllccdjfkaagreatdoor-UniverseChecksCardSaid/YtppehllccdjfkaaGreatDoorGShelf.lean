/- Lemmas and contracts of functions, joined for the claim: Shelf. -/
import Derived.Shelf.Strings.Builder1
import Derived.Shelf.Strings.Builder2
import Derived.Shelf.Strings.Trim
import Derived.Shelf.Small.Utf8
import Derived.Shelf.Small.Bits
import Derived.Shelf.Small.Strs
import Derived.Shelf.Small.Wraps
import Derived.Shelf.Strings.BuilderF
import Derived.Shelf.Strings.BuilderK
import Derived.Shelf.Strconv.Atoi
import Derived.Shelf.Strconv.Itoa0
import Derived.Shelf.Strconv.Itoa1
import Derived.Shelf.LaysM
import Derived.Shelf.Strconv.Itoa2
import Derived.Shelf.Strconv.Itoa3
import Derived.Shelf.Strconv.AtoiErrFast
import Derived.Shelf.Strconv.ParseIntEmpty
import Derived.Shelf.Strconv.AtoiFail
import Derived.Shelf.Strconv.Clone
import Derived.Shelf.Strconv.SyntaxError
import Derived.Shelf.LaysC
import Derived.Shelf.Strconv.ToError
import Derived.Shelf.Strconv.Lower
import Derived.Shelf.Strconv.ParseUint10
import Derived.Shelf.Strconv.ParseUint10Empty
import Derived.Shelf.Strconv.ParseUint10Any
import Derived.Shelf.Strconv.ParseInt10
import Derived.Shelf.Strconv.AtoiLong
import Derived.Shelf.Strconv.AtoiInnerAll
import Derived.Shelf.Strconv.RangeError
import Derived.Shelf.Strconv.ToErrorRange
import Derived.Shelf.Strconv.AtoiAll
import Derived.Shelf.Strconv.ErrVarAll
import Derived.Ground.MpProg
import Derived.Shelf.Pu.ParseUintPublic10
import Derived.Shelf.Strings.Search1
import Derived.Shelf.Strings.Search2
import Derived.Shelf.Strings.Cut
import Derived.Shelf.Strings.Shaped
import Derived.Shelf.Strings.Prefix
import Derived.Shelf.Unicode.Decode
import Derived.Shelf.Strings.Runes
import Derived.Shelf.Strings.AsciiSet
import Derived.Shelf.Bits.Mul64
import Derived.Shelf.Strings.Repeat
import Derived.Shelf.Unicode.DecodeSlow
import Derived.Shelf.Unicode.DecodeAny
import Derived.Shelf.Unicode.DecodeLast
import Derived.Ground.Names2Prog
import Derived.Shelf.Slices.SearchI
import Derived.Test.YtppehllccdjfkaaGreatDoorProg
namespace Go.Proofs
open Go.Shelf
def Tryz.lays170_ren : Go.Shelf.Ren := ⟨fun | 170 => 325 | n => n, fun | 70 => 353 | 3 => 3 | 0 => 0 | 72 => 355 | 37 => 105 | 5 => 5 | n => n, fun | n => n⟩
theorem Tryz.lays170 : Go.Proofs.Lays.n170 Tryz.prog Tryz.lays170_ren := {
  mixed := by kernel_rfl
  f170 := Tryz.func325.trans (congrArg some (by kernel_rfl))
  t0 := Tryz.underlying0
  a0 := Tryz.isAgg0
  z0 := Tryz.sizeOf0
  v0 := Tryz.zeroValue0
  t3 := Tryz.underlying3
  a3 := Tryz.isAgg3
  z3 := Tryz.sizeOf3
  v3 := Tryz.zeroValue3
  t37 := Tryz.underlying105
  a37 := Tryz.isAgg105
  z37 := Tryz.sizeOf105
  v37 := Tryz.zeroValue105
  t70 := Tryz.underlying353
  a70 := Tryz.isAgg353
  z70 := Tryz.sizeOf353
  v70 := Tryz.zeroValue353
  t72 := Tryz.underlying355
  a72 := Tryz.isAgg355
  z72 := Tryz.sizeOf355
  v72 := Tryz.zeroValue355 }
def Tryz.lays169_ren : Go.Shelf.Ren := ⟨fun | 169 => 326 | n => n, fun | 70 => 353 | 9 => 9 | 0 => 0 | 72 => 355 | 37 => 105 | 127 => 391 | 3 => 3 | 5 => 5 | n => n, fun | n => n⟩
theorem Tryz.lays169 : Go.Proofs.Lays.n169 Tryz.prog Tryz.lays169_ren := {
  mixed := by kernel_rfl
  f169 := Tryz.func326.trans (congrArg some (by kernel_rfl))
  t0 := Tryz.underlying0
  a0 := Tryz.isAgg0
  z0 := Tryz.sizeOf0
  v0 := Tryz.zeroValue0
  t3 := Tryz.underlying3
  a3 := Tryz.isAgg3
  z3 := Tryz.sizeOf3
  v3 := Tryz.zeroValue3
  t9 := Tryz.underlying9
  a9 := Tryz.isAgg9
  z9 := Tryz.sizeOf9
  v9 := Tryz.zeroValue9
  t37 := Tryz.underlying105
  a37 := Tryz.isAgg105
  z37 := Tryz.sizeOf105
  v37 := Tryz.zeroValue105
  t70 := Tryz.underlying353
  a70 := Tryz.isAgg353
  z70 := Tryz.sizeOf353
  v70 := Tryz.zeroValue353
  t72 := Tryz.underlying355
  a72 := Tryz.isAgg355
  z72 := Tryz.sizeOf355
  v72 := Tryz.zeroValue355
  t127 := Tryz.underlying391
  a127 := Tryz.isAgg391
  z127 := Tryz.sizeOf391
  v127 := Tryz.zeroValue391 }
theorem Tryz.Builder_Extra_169 : Builder.Extra Tryz.prog Tryz.lays169_ren := {
  sizeBuilder := by kernel_rfl
  liesBuilder := by kernel_rfl
  t5 := Tryz.underlying5
  a5 := Tryz.isAgg5
  z5 := Tryz.sizeOf5
  v5 := Tryz.zeroValue5
  infoByte := by kernel_rfl
  cellsByte := by kernel_rfl
  sizeByte := by kernel_rfl
  neB5 := by decide }
def Tryz.lays160_ren : Go.Shelf.Ren := ⟨fun | 160 => 166 | 232 => 240 | 231 => 239 | 227 => 241 | 234 => 243 | 233 => 242 | 236 => 245 | 235 => 244 | 228 => 295 | 271 => 298 | 151 => 297 | 197 => 296 | 120 => 350 | 152 => 349 | 260 => 348 | 137 => 373 | 119 => 374 | 224 => 375 | 225 => 376 | 217 => 382 | 266 => 394 | n => n, fun | 9 => 9 | 4 => 4 | 3 => 3 | 5 => 5 | 117 => 287 | 116 => 286 | 0 => 0 | 124 => 290 | 21 => 21 | 105 => 334 | 46 => 194 | 119 => 400 | 139 => 403 | 138 => 402 | n => n, fun | 3 => 2 | 4 => 3 | n => n⟩
theorem Tryz.lays160 : Go.Proofs.Lays.n160 Tryz.prog Tryz.lays160_ren := {
  mixed := by kernel_rfl
  f119 := Tryz.func374.trans (congrArg some (by kernel_rfl))
  f120 := Tryz.func350.trans (congrArg some (by kernel_rfl))
  f137 := Tryz.func373.trans (congrArg some (by kernel_rfl))
  f151 := Tryz.func297.trans (congrArg some (by kernel_rfl))
  f152 := Tryz.func349.trans (congrArg some (by kernel_rfl))
  f160 := Tryz.func166.trans (congrArg some (by kernel_rfl))
  f197 := Tryz.func296.trans (congrArg some (by kernel_rfl))
  f217 := Tryz.func382.trans (congrArg some (by kernel_rfl))
  f224 := Tryz.func375.trans (congrArg some (by kernel_rfl))
  f225 := Tryz.func376.trans (congrArg some (by kernel_rfl))
  f227 := Tryz.func241.trans (congrArg some (by kernel_rfl))
  f228 := Tryz.func295.trans (congrArg some (by kernel_rfl))
  f231 := Tryz.func239.trans (congrArg some (by kernel_rfl))
  f232 := Tryz.func240.trans (congrArg some (by kernel_rfl))
  f233 := Tryz.func242.trans (congrArg some (by kernel_rfl))
  f234 := Tryz.func243.trans (congrArg some (by kernel_rfl))
  f235 := Tryz.func244.trans (congrArg some (by kernel_rfl))
  f236 := Tryz.func245.trans (congrArg some (by kernel_rfl))
  f260 := Tryz.func348.trans (congrArg some (by kernel_rfl))
  f266 := Tryz.func394.trans (congrArg some (by kernel_rfl))
  f271 := Tryz.func298.trans (congrArg some (by kernel_rfl))
  t0 := Tryz.underlying0
  a0 := Tryz.isAgg0
  z0 := Tryz.sizeOf0
  v0 := Tryz.zeroValue0
  t3 := Tryz.underlying3
  a3 := Tryz.isAgg3
  z3 := Tryz.sizeOf3
  v3 := Tryz.zeroValue3
  t4 := Tryz.underlying4
  a4 := Tryz.isAgg4
  z4 := Tryz.sizeOf4
  v4 := Tryz.zeroValue4
  t5 := Tryz.underlying5
  a5 := Tryz.isAgg5
  z5 := Tryz.sizeOf5
  v5 := Tryz.zeroValue5
  t9 := Tryz.underlying9
  a9 := Tryz.isAgg9
  z9 := Tryz.sizeOf9
  v9 := Tryz.zeroValue9
  t21 := Tryz.underlying21
  a21 := Tryz.isAgg21
  z21 := Tryz.sizeOf21
  v21 := Tryz.zeroValue21
  t46 := Tryz.underlying194
  a46 := Tryz.isAgg194
  z46 := Tryz.sizeOf194
  v46 := Tryz.zeroValue194
  t105 := Tryz.underlying334
  a105 := Tryz.isAgg334
  z105 := Tryz.sizeOf334
  v105 := Tryz.zeroValue334
  t116 := Tryz.underlying286
  a116 := Tryz.isAgg286
  z116 := Tryz.sizeOf286
  t117 := Tryz.underlying287
  a117 := Tryz.isAgg287
  z117 := Tryz.sizeOf287
  v117 := Tryz.zeroValue287
  t119 := Tryz.underlying400
  a119 := Tryz.isAgg400
  z119 := Tryz.sizeOf400
  t124 := Tryz.underlying290
  a124 := Tryz.isAgg290
  z124 := Tryz.sizeOf290
  v124 := Tryz.zeroValue290
  t138 := Tryz.underlying402
  a138 := Tryz.isAgg402
  z138 := Tryz.sizeOf402
  v138 := Tryz.zeroValue402
  t139 := Tryz.underlying403
  a139 := Tryz.isAgg403
  z139 := Tryz.sizeOf403
  v139 := Tryz.zeroValue403
  g3 := by kernel_rfl
  g4 := by kernel_rfl }
def Tryz.lays122_ren : Go.Shelf.Ren := ⟨fun | 122 => 128 | 215 => 199 | n => n, fun | 3 => 3 | 4 => 4 | n => n, fun | n => n⟩
theorem Tryz.lays122 : Go.Proofs.Lays.n122 Tryz.prog Tryz.lays122_ren := {
  mixed := by kernel_rfl
  f122 := Tryz.func128.trans (congrArg some (by kernel_rfl))
  f215 := Tryz.func199.trans (congrArg some (by kernel_rfl))
  t3 := Tryz.underlying3
  a3 := Tryz.isAgg3
  z3 := Tryz.sizeOf3
  v3 := Tryz.zeroValue3
  t4 := Tryz.underlying4
  a4 := Tryz.isAgg4
  z4 := Tryz.sizeOf4
  v4 := Tryz.zeroValue4 }
open Go.RowKit in
theorem Tryz.cmp_Compare_int (x y : Int) (w : World) :
    Calls Tryz.prog 128 #[.int .i64 x, .int .i64 y] w fun e w' => e = .returned (.int .i64 (Lib.compareInt x y)) ∧ w' = w := Any.cmp_Compare_int Tryz.lays122 x y w
open Go.RowKit in
theorem Tryz.Builder_Len_f (B b : Nat) (bs : List Value) (w : World) (h : Lib.IsBuilderF 355 5 B b bs w) :
    Calls Tryz.prog 325 #[.pointer (some ⟨b, 0, none⟩)] w fun e w' => e = .returned (.int .i64 bs.length) ∧ w' = w := Any.Builder_Len_f Tryz.lays170 B b bs w h
open Go.RowKit in
theorem Tryz.Builder_String_any_k (B b : Nat) (l : List UInt8) (w : World) (h : Lib.IsBuilderF 355 5 B b (Lib.byteCells l) w) (hBw : B ≤ w.heap.size) :
    Calls Tryz.prog 326 #[.pointer (some ⟨b, 0, none⟩)] w fun e w' => e = .returned (.string ⟨l.toArray⟩) ∧ (Lib.IsBuilderF 355 5 B b (Lib.byteCells l) w' ∧ Below B w w' ∧ Lib.OthersKept 5 (some b) w w') := Any.Builder_String_any_k Tryz.lays169 Tryz.Builder_Extra_169 B b l w h hBw
def Tryz.lays283_ren : Go.Shelf.Ren := ⟨fun | 283 => 378 | n => n, fun | 3 => 3 | 9 => 9 | 4 => 4 | n => n, fun | n => n⟩
theorem Tryz.lays283 : Go.Proofs.Lays.n283 Tryz.prog Tryz.lays283_ren := {
  mixed := by kernel_rfl
  f283 := Tryz.func378.trans (congrArg some (by kernel_rfl))
  t3 := Tryz.underlying3
  a3 := Tryz.isAgg3
  z3 := Tryz.sizeOf3
  v3 := Tryz.zeroValue3
  t4 := Tryz.underlying4
  a4 := Tryz.isAgg4
  z4 := Tryz.sizeOf4
  v4 := Tryz.zeroValue4
  t9 := Tryz.underlying9
  a9 := Tryz.isAgg9
  z9 := Tryz.sizeOf9
  v9 := Tryz.zeroValue9 }
open Go.Lib in
theorem Tryz.internal_strconv_small (i : Nat) (h : i < 100) (w : World) :
    Calls Tryz.prog 378 #[.int .i64 i] w fun e w' => e = .returned (.string ⟨(Lib.decDigits i).toArray⟩) ∧ w' = w := Any.internal_strconv_small Tryz.lays283 i h w
def Tryz.laysM284_ren : Go.Shelf.Ren := ⟨fun | 284 => 379 | 129 => 198 | 317 => 390 | 318 => 391 | n => n, fun | 53 => 255 | 3 => 3 | 212 => 422 | 0 => 0 | 4 => 4 | 46 => 194 | 5 => 5 | 9 => 9 | n => n, fun | 17 => 5 | n => n⟩
theorem Tryz.laysM284 : Go.Proofs.LaysM.n284 Tryz.prog Tryz.laysM284_ren := {
  mixed := by kernel_rfl
  f129 := Tryz.func198.trans (congrArg some (by kernel_rfl))
  f284 := Tryz.func379.trans (congrArg some (by kernel_rfl))
  f317 := Tryz.func390.trans (congrArg some (by kernel_rfl))
  f318 := Tryz.func391.trans (congrArg some (by kernel_rfl))
  t0 := Tryz.underlying0
  a0 := Tryz.isAgg0
  z0 := Tryz.sizeOf0
  v0 := Tryz.zeroValue0
  t3 := Tryz.underlying3
  a3 := Tryz.isAgg3
  z3 := Tryz.sizeOf3
  v3 := Tryz.zeroValue3
  t4 := Tryz.underlying4
  a4 := Tryz.isAgg4
  z4 := Tryz.sizeOf4
  v4 := Tryz.zeroValue4
  t5 := Tryz.underlying5
  a5 := Tryz.isAgg5
  z5 := Tryz.sizeOf5
  v5 := Tryz.zeroValue5
  t9 := Tryz.underlying9
  a9 := Tryz.isAgg9
  z9 := Tryz.sizeOf9
  v9 := Tryz.zeroValue9
  t46 := Tryz.underlying194
  a46 := Tryz.isAgg194
  z46 := Tryz.sizeOf194
  v46 := Tryz.zeroValue194
  t53 := Tryz.underlying255
  a53 := Tryz.isAgg255
  z53 := Tryz.sizeOf255
  v53 := Tryz.zeroValue255
  t212 := Tryz.underlying422
  a212 := Tryz.isAgg422
  z212 := Tryz.sizeOf422
  v212 := Tryz.zeroValue422
  g17 := by kernel_rfl
  i0 := by kernel_rfl
  i3 := by kernel_rfl
  i4 := by kernel_rfl
  i5 := by kernel_rfl
  i9 := by kernel_rfl
  i46 := by kernel_rfl
  i53 := by kernel_rfl
  i212 := by kernel_rfl
  m17 := by kernel_rfl }
open Go.Lib in
theorem Tryz.internal_strconv_numDigits (u : Nat) (h1 : 1 ≤ u) (h2 : u < 18446744073709551616) (w : World) (htab : Lib.TabIs Tryz.prog w "internal/strconv.uint64pow10" .u64 Lib.pow10Tab) :
    Calls Tryz.prog 379 #[.int .u64 u] w fun e w' => e = .returned (.int .i64 (Lib.nDigits u)) ∧ w' = w := Any.internal_strconv_numDigits Tryz.laysM284 u h1 h2 w htab
def Tryz.lays285_ren : Go.Shelf.Ren := ⟨fun | 285 => 380 | n => n, fun | 37 => 105 | 53 => 255 | 3 => 3 | 4 => 4 | 51 => 253 | 9 => 9 | 5 => 5 | 0 => 0 | n => n, fun | n => n⟩
theorem Tryz.lays285 : Go.Proofs.Lays.n285 Tryz.prog Tryz.lays285_ren := {
  mixed := by kernel_rfl
  f285 := Tryz.func380.trans (congrArg some (by kernel_rfl))
  t0 := Tryz.underlying0
  a0 := Tryz.isAgg0
  z0 := Tryz.sizeOf0
  v0 := Tryz.zeroValue0
  t3 := Tryz.underlying3
  a3 := Tryz.isAgg3
  z3 := Tryz.sizeOf3
  v3 := Tryz.zeroValue3
  t4 := Tryz.underlying4
  a4 := Tryz.isAgg4
  z4 := Tryz.sizeOf4
  v4 := Tryz.zeroValue4
  t5 := Tryz.underlying5
  a5 := Tryz.isAgg5
  z5 := Tryz.sizeOf5
  v5 := Tryz.zeroValue5
  t9 := Tryz.underlying9
  a9 := Tryz.isAgg9
  z9 := Tryz.sizeOf9
  v9 := Tryz.zeroValue9
  t37 := Tryz.underlying105
  a37 := Tryz.isAgg105
  z37 := Tryz.sizeOf105
  v37 := Tryz.zeroValue105
  t51 := Tryz.underlying253
  a51 := Tryz.isAgg253
  z51 := Tryz.sizeOf253
  v51 := Tryz.zeroValue253
  t53 := Tryz.underlying255
  a53 := Tryz.isAgg255
  z53 := Tryz.sizeOf255
  v53 := Tryz.zeroValue255 }
open Go.RowKit Go.Sort Go.Lib in
theorem Tryz.internal_strconv_formatBase10 (blk off cap : Nat) (u : Nat) (d : Array UInt8) (w : World) (hH : Holds (fun (b : UInt8) => Value.int .u8 (b.toNat : Int)) w blk off d) (hu : u < 10 ^ d.size) (hu64 : u < 18446744073709551616) (hsz : d.size < 4611686018427387904) :
    Calls Tryz.prog 380 #[.slice (some ⟨blk, off, none⟩) d.size cap, .int .u64 u] w fun e w' =>
      e = .returned (.tuple #[]) ∧ ∃ (n v' : Nat) (dk : Array UInt8), w' = (putRow (fun (b : UInt8) => Value.int .u8 (b.toNat : Int)) w blk off dk).drewN n ∧ FmtInv d.size u 0 v' dk := Any.internal_strconv_formatBase10 Tryz.lays285 blk off cap u d w hH hu hu64 hsz
def Tryz.laysM171_ren : Go.Shelf.Ren := ⟨fun | 171 => 259 | 243 => 311 | 246 => 355 | 283 => 378 | 284 => 379 | 285 => 380 | 286 => 381 | 129 => 198 | 317 => 390 | 318 => 391 | 319 => 392 | 320 => 393 | 337 => 397 | 338 => 398 | n => n, fun | 3 => 3 | 9 => 9 | 2 => 2 | 4 => 4 | 171 => 407 | 0 => 0 | 53 => 255 | 37 => 105 | 5 => 5 | 173 => 409 | 212 => 422 | 51 => 253 | 20 => 20 | 213 => 423 | 46 => 194 | 232 => 425 | 233 => 426 | n => n, fun | 17 => 5 | 18 => 6 | 19 => 7 | n => n⟩
theorem Tryz.laysM171 : Go.Proofs.LaysM.n171 Tryz.prog Tryz.laysM171_ren := {
  mixed := by kernel_rfl
  f129 := Tryz.func198.trans (congrArg some (by kernel_rfl))
  f171 := Tryz.func259.trans (congrArg some (by kernel_rfl))
  f243 := Tryz.func311.trans (congrArg some (by kernel_rfl))
  f246 := Tryz.func355.trans (congrArg some (by kernel_rfl))
  f283 := Tryz.func378.trans (congrArg some (by kernel_rfl))
  f284 := Tryz.func379.trans (congrArg some (by kernel_rfl))
  f285 := Tryz.func380.trans (congrArg some (by kernel_rfl))
  f286 := Tryz.func381.trans (congrArg some (by kernel_rfl))
  f317 := Tryz.func390.trans (congrArg some (by kernel_rfl))
  f318 := Tryz.func391.trans (congrArg some (by kernel_rfl))
  f319 := Tryz.func392.trans (congrArg some (by kernel_rfl))
  f320 := Tryz.func393.trans (congrArg some (by kernel_rfl))
  f337 := Tryz.func397.trans (congrArg some (by kernel_rfl))
  f338 := Tryz.func398.trans (congrArg some (by kernel_rfl))
  t0 := Tryz.underlying0
  a0 := Tryz.isAgg0
  z0 := Tryz.sizeOf0
  v0 := Tryz.zeroValue0
  t2 := Tryz.underlying2
  a2 := Tryz.isAgg2
  z2 := Tryz.sizeOf2
  v2 := Tryz.zeroValue2
  t3 := Tryz.underlying3
  a3 := Tryz.isAgg3
  z3 := Tryz.sizeOf3
  v3 := Tryz.zeroValue3
  t4 := Tryz.underlying4
  a4 := Tryz.isAgg4
  z4 := Tryz.sizeOf4
  v4 := Tryz.zeroValue4
  t5 := Tryz.underlying5
  a5 := Tryz.isAgg5
  z5 := Tryz.sizeOf5
  v5 := Tryz.zeroValue5
  t9 := Tryz.underlying9
  a9 := Tryz.isAgg9
  z9 := Tryz.sizeOf9
  v9 := Tryz.zeroValue9
  t20 := Tryz.underlying20
  a20 := Tryz.isAgg20
  z20 := Tryz.sizeOf20
  v20 := Tryz.zeroValue20
  t37 := Tryz.underlying105
  a37 := Tryz.isAgg105
  z37 := Tryz.sizeOf105
  v37 := Tryz.zeroValue105
  t46 := Tryz.underlying194
  a46 := Tryz.isAgg194
  z46 := Tryz.sizeOf194
  v46 := Tryz.zeroValue194
  t51 := Tryz.underlying253
  a51 := Tryz.isAgg253
  z51 := Tryz.sizeOf253
  v51 := Tryz.zeroValue253
  t53 := Tryz.underlying255
  a53 := Tryz.isAgg255
  z53 := Tryz.sizeOf255
  v53 := Tryz.zeroValue255
  t171 := Tryz.underlying407
  a171 := Tryz.isAgg407
  z171 := Tryz.sizeOf407
  v171 := Tryz.zeroValue407
  t173 := Tryz.underlying409
  a173 := Tryz.isAgg409
  z173 := Tryz.sizeOf409
  v173 := Tryz.zeroValue409
  t212 := Tryz.underlying422
  a212 := Tryz.isAgg422
  z212 := Tryz.sizeOf422
  v212 := Tryz.zeroValue422
  t213 := Tryz.underlying423
  a213 := Tryz.isAgg423
  z213 := Tryz.sizeOf423
  t232 := Tryz.underlying425
  a232 := Tryz.isAgg425
  z232 := Tryz.sizeOf425
  v232 := Tryz.zeroValue425
  t233 := Tryz.underlying426
  a233 := Tryz.isAgg426
  z233 := Tryz.sizeOf426
  v233 := Tryz.zeroValue426
  g17 := by kernel_rfl
  g18 := by kernel_rfl
  g19 := by kernel_rfl
  i0 := by kernel_rfl
  i2 := by kernel_rfl
  i3 := by kernel_rfl
  i4 := by kernel_rfl
  i5 := by kernel_rfl
  i9 := by kernel_rfl
  i20 := by kernel_rfl
  i37 := by kernel_rfl
  i46 := by kernel_rfl
  i51 := by kernel_rfl
  i53 := by kernel_rfl
  i171 := by kernel_rfl
  i173 := by kernel_rfl
  i212 := by kernel_rfl
  i232 := by kernel_rfl
  i233 := by kernel_rfl
  m17 := by kernel_rfl
  m18 := by kernel_rfl
  m19 := by kernel_rfl }
open Go.RowKit Go.Sort Go.Lib in
theorem Tryz.strconv_Itoa (n : Int) (h0 : -9223372036854775808 ≤ n) (h1 : n ≤ 9223372036854775807) (w : World) (htab : Lib.TabIs Tryz.prog w "internal/strconv.uint64pow10" .u64 Lib.pow10Tab) :
    Calls Tryz.prog 259 #[.int .i64 n] w fun e w' => e = .returned (.string ⟨(Lib.itoa n).toArray⟩) ∧ ∃ k os, w' = grow (w.drewN k) os := Any.strconv_Itoa Tryz.laysM171 n h0 h1 w htab
def Tryz.laysC172_ren : Go.Shelf.Ren := ⟨fun | 172 => 226 | 244 => 282 | 245 => 283 | 247 => 332 | 279 => 333 | 280 => 334 | 281 => 335 | 282 => 336 | 287 => 369 | 316 => 370 | 171 => 259 | 205 => 371 | 321 => 388 | 322 => 389 | 243 => 311 | 246 => 355 | 283 => 378 | 284 => 379 | 285 => 380 | 286 => 381 | 129 => 198 | 317 => 390 | 318 => 391 | 319 => 392 | 320 => 393 | 337 => 397 | 338 => 398 | n => n, fun | 9 => 9 | 3 => 3 | 75 => 279 | 76 => 280 | 4 => 4 | 5 => 5 | 167 => 367 | 37 => 105 | 0 => 0 | 85 => 368 | 2 => 2 | 168 => 370 | 53 => 255 | 175 => 393 | 46 => 194 | 210 => 397 | 127 => 391 | 145 => 420 | 143 => 418 | 21 => 21 | 171 => 407 | 173 => 409 | 212 => 422 | 51 => 253 | 20 => 20 | 213 => 423 | 232 => 425 | 233 => 426 | 80 => 361 | n => n, fun | 15 => 0 | 16 => 1 | 17 => 5 | 18 => 6 | 19 => 7 | n => n⟩
theorem Tryz.laysC172 : Go.Proofs.LaysC.n172 Tryz.prog Tryz.laysC172_ren := {
  mixed := by kernel_rfl
  f129 := Tryz.func198.trans (congrArg some (by kernel_rfl))
  f171 := Tryz.func259.trans (congrArg some (by kernel_rfl))
  f172 := Tryz.func226.trans (congrArg some (by kernel_rfl))
  f205 := Tryz.func371.trans (congrArg some (by kernel_rfl))
  f243 := Tryz.func311.trans (congrArg some (by kernel_rfl))
  f244 := Tryz.func282.trans (congrArg some (by kernel_rfl))
  f245 := Tryz.func283.trans (congrArg some (by kernel_rfl))
  f246 := Tryz.func355.trans (congrArg some (by kernel_rfl))
  f247 := Tryz.func332.trans (congrArg some (by kernel_rfl))
  f279 := Tryz.func333.trans (congrArg some (by kernel_rfl))
  f280 := Tryz.func334.trans (congrArg some (by kernel_rfl))
  f281 := Tryz.func335.trans (congrArg some (by kernel_rfl))
  f282 := Tryz.func336.trans (congrArg some (by kernel_rfl))
  f283 := Tryz.func378.trans (congrArg some (by kernel_rfl))
  f284 := Tryz.func379.trans (congrArg some (by kernel_rfl))
  f285 := Tryz.func380.trans (congrArg some (by kernel_rfl))
  f286 := Tryz.func381.trans (congrArg some (by kernel_rfl))
  f287 := Tryz.func369.trans (congrArg some (by kernel_rfl))
  f316 := Tryz.func370.trans (congrArg some (by kernel_rfl))
  f317 := Tryz.func390.trans (congrArg some (by kernel_rfl))
  f318 := Tryz.func391.trans (congrArg some (by kernel_rfl))
  f319 := Tryz.func392.trans (congrArg some (by kernel_rfl))
  f320 := Tryz.func393.trans (congrArg some (by kernel_rfl))
  f321 := Tryz.func388.trans (congrArg some (by kernel_rfl))
  f322 := Tryz.func389.trans (congrArg some (by kernel_rfl))
  f337 := Tryz.func397.trans (congrArg some (by kernel_rfl))
  f338 := Tryz.func398.trans (congrArg some (by kernel_rfl))
  t0 := Tryz.underlying0
  a0 := Tryz.isAgg0
  z0 := Tryz.sizeOf0
  v0 := Tryz.zeroValue0
  t2 := Tryz.underlying2
  a2 := Tryz.isAgg2
  z2 := Tryz.sizeOf2
  v2 := Tryz.zeroValue2
  t3 := Tryz.underlying3
  a3 := Tryz.isAgg3
  z3 := Tryz.sizeOf3
  v3 := Tryz.zeroValue3
  t4 := Tryz.underlying4
  a4 := Tryz.isAgg4
  z4 := Tryz.sizeOf4
  v4 := Tryz.zeroValue4
  t5 := Tryz.underlying5
  a5 := Tryz.isAgg5
  z5 := Tryz.sizeOf5
  v5 := Tryz.zeroValue5
  t9 := Tryz.underlying9
  a9 := Tryz.isAgg9
  z9 := Tryz.sizeOf9
  v9 := Tryz.zeroValue9
  t20 := Tryz.underlying20
  a20 := Tryz.isAgg20
  z20 := Tryz.sizeOf20
  v20 := Tryz.zeroValue20
  t21 := Tryz.underlying21
  a21 := Tryz.isAgg21
  z21 := Tryz.sizeOf21
  v21 := Tryz.zeroValue21
  t37 := Tryz.underlying105
  a37 := Tryz.isAgg105
  z37 := Tryz.sizeOf105
  v37 := Tryz.zeroValue105
  t46 := Tryz.underlying194
  a46 := Tryz.isAgg194
  z46 := Tryz.sizeOf194
  v46 := Tryz.zeroValue194
  t51 := Tryz.underlying253
  a51 := Tryz.isAgg253
  z51 := Tryz.sizeOf253
  v51 := Tryz.zeroValue253
  t53 := Tryz.underlying255
  a53 := Tryz.isAgg255
  z53 := Tryz.sizeOf255
  v53 := Tryz.zeroValue255
  t75 := Tryz.underlying279
  a75 := Tryz.isAgg279
  z75 := Tryz.sizeOf279
  v75 := Tryz.zeroValue279
  t76 := Tryz.underlying280
  a76 := Tryz.isAgg280
  z76 := Tryz.sizeOf280
  v76 := Tryz.zeroValue280
  t85 := Tryz.underlying368
  a85 := Tryz.isAgg368
  z85 := Tryz.sizeOf368
  v85 := Tryz.zeroValue368
  t127 := Tryz.underlying391
  a127 := Tryz.isAgg391
  z127 := Tryz.sizeOf391
  v127 := Tryz.zeroValue391
  t143 := Tryz.underlying418
  a143 := Tryz.isAgg418
  z143 := Tryz.sizeOf418
  v143 := Tryz.zeroValue418
  t145 := Tryz.underlying420
  a145 := Tryz.isAgg420
  z145 := Tryz.sizeOf420
  v145 := Tryz.zeroValue420
  t167 := Tryz.underlying367
  a167 := Tryz.isAgg367
  z167 := Tryz.sizeOf367
  v167 := Tryz.zeroValue367
  t168 := Tryz.underlying370
  a168 := Tryz.isAgg370
  z168 := Tryz.sizeOf370
  v168 := Tryz.zeroValue370
  t171 := Tryz.underlying407
  a171 := Tryz.isAgg407
  z171 := Tryz.sizeOf407
  v171 := Tryz.zeroValue407
  t173 := Tryz.underlying409
  a173 := Tryz.isAgg409
  z173 := Tryz.sizeOf409
  v173 := Tryz.zeroValue409
  t175 := Tryz.underlying393
  a175 := Tryz.isAgg393
  z175 := Tryz.sizeOf393
  v175 := Tryz.zeroValue393
  t210 := Tryz.underlying397
  a210 := Tryz.isAgg397
  z210 := Tryz.sizeOf397
  v210 := Tryz.zeroValue397
  t212 := Tryz.underlying422
  a212 := Tryz.isAgg422
  z212 := Tryz.sizeOf422
  v212 := Tryz.zeroValue422
  t213 := Tryz.underlying423
  a213 := Tryz.isAgg423
  z213 := Tryz.sizeOf423
  t232 := Tryz.underlying425
  a232 := Tryz.isAgg425
  z232 := Tryz.sizeOf425
  v232 := Tryz.zeroValue425
  t233 := Tryz.underlying426
  a233 := Tryz.isAgg426
  z233 := Tryz.sizeOf426
  v233 := Tryz.zeroValue426
  g15 := by kernel_rfl
  g16 := by kernel_rfl
  g17 := by kernel_rfl
  g18 := by kernel_rfl
  g19 := by kernel_rfl
  t80 := Tryz.underlying361
  a80 := Tryz.isAgg361
  z80 := Tryz.sizeOf361
  v80 := Tryz.zeroValue361
  i0 := by kernel_rfl
  i2 := by kernel_rfl
  i3 := by kernel_rfl
  i4 := by kernel_rfl
  i5 := by kernel_rfl
  i9 := by kernel_rfl
  i20 := by kernel_rfl
  i21 := by kernel_rfl
  i37 := by kernel_rfl
  i46 := by kernel_rfl
  i51 := by kernel_rfl
  i53 := by kernel_rfl
  i75 := by kernel_rfl
  i76 := by kernel_rfl
  i80 := by kernel_rfl
  i85 := by kernel_rfl
  i127 := by kernel_rfl
  i143 := by kernel_rfl
  i145 := by kernel_rfl
  i167 := by kernel_rfl
  i168 := by kernel_rfl
  i171 := by kernel_rfl
  i173 := by kernel_rfl
  i175 := by kernel_rfl
  i210 := by kernel_rfl
  i212 := by kernel_rfl
  i232 := by kernel_rfl
  i233 := by kernel_rfl
  m15 := by kernel_rfl
  m16 := by kernel_rfl
  m17 := by kernel_rfl
  m18 := by kernel_rfl
  m19 := by kernel_rfl
  c0 := by kernel_rfl
  c2 := by kernel_rfl
  c3 := by kernel_rfl
  c4 := by kernel_rfl
  c5 := by kernel_rfl
  c9 := by kernel_rfl
  c20 := by kernel_rfl
  c21 := by kernel_rfl
  c37 := by kernel_rfl
  c46 := by kernel_rfl
  c51 := by kernel_rfl
  c53 := by kernel_rfl
  c75 := by kernel_rfl
  c76 := by kernel_rfl
  c80 := by kernel_rfl
  c85 := by kernel_rfl
  c127 := by kernel_rfl
  c143 := by kernel_rfl
  c145 := by kernel_rfl
  c167 := by kernel_rfl
  c168 := by kernel_rfl
  c171 := by kernel_rfl
  c173 := by kernel_rfl
  c175 := by kernel_rfl
  c210 := by kernel_rfl
  c212 := by kernel_rfl
  c213 := by kernel_rfl
  c232 := by kernel_rfl
  c233 := by kernel_rfl }
open Go.RowKit in
theorem Tryz.strconv_Atoi_ok (s : ByteArray) (hmax : s.size ≤ 9223372036854775806) (v : Int) (h : Lib.atoiAll s.data.toList = .ok v) (w : World) :
    Calls Tryz.prog 226 #[.string s] w fun e w' => e = .returned (.tuple #[.int .i64 v, .nilIface]) ∧ (w' = w ∨ ∃ t, w' = Lib.bytesWorld w 5 t) := Any.strconv_Atoi_ok Tryz.laysC172 s hmax v h w
open Go.RowKit in
theorem Tryz.strconv_Atoi_range_var (s : ByteArray) (hlim : s.size ≤ 281474976710656) (h : Lib.atoiAll s.data.toList = .range) (tp : TypeId) (p : Value) (w : World) (hvar : w.var? Tryz.prog "strconv.ErrRange" = some #[.iface tp p]) :
    Calls Tryz.prog 226 #[.string s] w fun e w' => ∃ N, e = .returned (.tuple #[.int .i64 (Lib.atoiSat s.data.toList), .iface 370 (.pointer (some ⟨N, 0, none⟩))]) ∧ w.heap.size ≤ N ∧ w'.heap[N]? = some (.cells #[.string ⟨#[65, 116, 111, 105]⟩, .string s, .iface tp p] 397 (0, 0)) ∧ Below w.heap.size w w' := Any.strconv_Atoi_range_var Tryz.laysC172 s hlim h tp p w hvar
def Tryz.laysPu14_ren : Go.Shelf.Ren := ⟨fun | 14 => 367 | 16 => 369 | 17 => 283 | 19 => 388 | 20 => 389 | 21 => 333 | 22 => 334 | 23 => 335 | 24 => 336 | 25 => 370 | 27 => 259 | 26 => 371 | 28 => 311 | 29 => 355 | 30 => 378 | 31 => 379 | 32 => 380 | 33 => 381 | 35 => 198 | 34 => 390 | 36 => 391 | 37 => 392 | 38 => 393 | 39 => 397 | 40 => 398 | n => n, fun | 9 => 9 | 3 => 3 | 22 => 255 | 24 => 279 | 25 => 393 | 4 => 4 | 34 => 367 | 5 => 5 | 36 => 194 | 37 => 105 | 0 => 0 | 39 => 370 | 21 => 21 | 44 => 397 | 47 => 391 | 50 => 420 | 48 => 418 | 2 => 2 | 52 => 407 | 55 => 409 | 59 => 422 | 60 => 253 | 20 => 20 | 61 => 423 | 65 => 425 | 66 => 426 | 67 => 361 | n => n, fun | 0 => 0 | 1 => 1 | 2 => 5 | 3 => 6 | 4 => 7 | n => n⟩
theorem Tryz.laysPu14 : Go.Proofs.LaysPu.n14 Tryz.prog Tryz.laysPu14_ren := {
  mixed := by kernel_rfl
  f14 := Tryz.func367.trans (congrArg some (by kernel_rfl))
  f16 := Tryz.func369.trans (congrArg some (by kernel_rfl))
  f17 := Tryz.func283.trans (congrArg some (by kernel_rfl))
  f19 := Tryz.func388.trans (congrArg some (by kernel_rfl))
  f20 := Tryz.func389.trans (congrArg some (by kernel_rfl))
  f21 := Tryz.func333.trans (congrArg some (by kernel_rfl))
  f22 := Tryz.func334.trans (congrArg some (by kernel_rfl))
  f23 := Tryz.func335.trans (congrArg some (by kernel_rfl))
  f24 := Tryz.func336.trans (congrArg some (by kernel_rfl))
  f25 := Tryz.func370.trans (congrArg some (by kernel_rfl))
  f26 := Tryz.func371.trans (congrArg some (by kernel_rfl))
  f27 := Tryz.func259.trans (congrArg some (by kernel_rfl))
  f28 := Tryz.func311.trans (congrArg some (by kernel_rfl))
  f29 := Tryz.func355.trans (congrArg some (by kernel_rfl))
  f30 := Tryz.func378.trans (congrArg some (by kernel_rfl))
  f31 := Tryz.func379.trans (congrArg some (by kernel_rfl))
  f32 := Tryz.func380.trans (congrArg some (by kernel_rfl))
  f33 := Tryz.func381.trans (congrArg some (by kernel_rfl))
  f34 := Tryz.func390.trans (congrArg some (by kernel_rfl))
  f35 := Tryz.func198.trans (congrArg some (by kernel_rfl))
  f36 := Tryz.func391.trans (congrArg some (by kernel_rfl))
  f37 := Tryz.func392.trans (congrArg some (by kernel_rfl))
  f38 := Tryz.func393.trans (congrArg some (by kernel_rfl))
  f39 := Tryz.func397.trans (congrArg some (by kernel_rfl))
  f40 := Tryz.func398.trans (congrArg some (by kernel_rfl))
  t0 := Tryz.underlying0
  a0 := Tryz.isAgg0
  z0 := Tryz.sizeOf0
  v0 := Tryz.zeroValue0
  i0 := by kernel_rfl
  t2 := Tryz.underlying2
  a2 := Tryz.isAgg2
  z2 := Tryz.sizeOf2
  v2 := Tryz.zeroValue2
  i2 := by kernel_rfl
  t3 := Tryz.underlying3
  a3 := Tryz.isAgg3
  z3 := Tryz.sizeOf3
  v3 := Tryz.zeroValue3
  i3 := by kernel_rfl
  t4 := Tryz.underlying4
  a4 := Tryz.isAgg4
  z4 := Tryz.sizeOf4
  v4 := Tryz.zeroValue4
  i4 := by kernel_rfl
  t5 := Tryz.underlying5
  a5 := Tryz.isAgg5
  z5 := Tryz.sizeOf5
  v5 := Tryz.zeroValue5
  i5 := by kernel_rfl
  t9 := Tryz.underlying9
  a9 := Tryz.isAgg9
  z9 := Tryz.sizeOf9
  v9 := Tryz.zeroValue9
  i9 := by kernel_rfl
  t20 := Tryz.underlying20
  a20 := Tryz.isAgg20
  z20 := Tryz.sizeOf20
  v20 := Tryz.zeroValue20
  i20 := by kernel_rfl
  t21 := Tryz.underlying21
  a21 := Tryz.isAgg21
  z21 := Tryz.sizeOf21
  v21 := Tryz.zeroValue21
  i21 := by kernel_rfl
  t22 := Tryz.underlying255
  a22 := Tryz.isAgg255
  z22 := Tryz.sizeOf255
  v22 := Tryz.zeroValue255
  i22 := by kernel_rfl
  t24 := Tryz.underlying279
  a24 := Tryz.isAgg279
  z24 := Tryz.sizeOf279
  v24 := Tryz.zeroValue279
  i24 := by kernel_rfl
  t25 := Tryz.underlying393
  a25 := Tryz.isAgg393
  z25 := Tryz.sizeOf393
  v25 := Tryz.zeroValue393
  i25 := by kernel_rfl
  t34 := Tryz.underlying367
  a34 := Tryz.isAgg367
  z34 := Tryz.sizeOf367
  v34 := Tryz.zeroValue367
  i34 := by kernel_rfl
  c34 := by kernel_rfl
  t36 := Tryz.underlying194
  a36 := Tryz.isAgg194
  z36 := Tryz.sizeOf194
  v36 := Tryz.zeroValue194
  i36 := by kernel_rfl
  t37 := Tryz.underlying105
  a37 := Tryz.isAgg105
  z37 := Tryz.sizeOf105
  v37 := Tryz.zeroValue105
  i37 := by kernel_rfl
  t39 := Tryz.underlying370
  a39 := Tryz.isAgg370
  z39 := Tryz.sizeOf370
  v39 := Tryz.zeroValue370
  i39 := by kernel_rfl
  t44 := Tryz.underlying397
  a44 := Tryz.isAgg397
  z44 := Tryz.sizeOf397
  v44 := Tryz.zeroValue397
  i44 := by kernel_rfl
  t47 := Tryz.underlying391
  a47 := Tryz.isAgg391
  z47 := Tryz.sizeOf391
  v47 := Tryz.zeroValue391
  i47 := by kernel_rfl
  t48 := Tryz.underlying418
  a48 := Tryz.isAgg418
  z48 := Tryz.sizeOf418
  v48 := Tryz.zeroValue418
  i48 := by kernel_rfl
  t50 := Tryz.underlying420
  a50 := Tryz.isAgg420
  z50 := Tryz.sizeOf420
  v50 := Tryz.zeroValue420
  i50 := by kernel_rfl
  t52 := Tryz.underlying407
  a52 := Tryz.isAgg407
  z52 := Tryz.sizeOf407
  v52 := Tryz.zeroValue407
  i52 := by kernel_rfl
  t55 := Tryz.underlying409
  a55 := Tryz.isAgg409
  z55 := Tryz.sizeOf409
  v55 := Tryz.zeroValue409
  i55 := by kernel_rfl
  t59 := Tryz.underlying422
  a59 := Tryz.isAgg422
  z59 := Tryz.sizeOf422
  v59 := Tryz.zeroValue422
  i59 := by kernel_rfl
  t60 := Tryz.underlying253
  a60 := Tryz.isAgg253
  z60 := Tryz.sizeOf253
  v60 := Tryz.zeroValue253
  i60 := by kernel_rfl
  t61 := Tryz.underlying423
  a61 := Tryz.isAgg423
  z61 := Tryz.sizeOf423
  t65 := Tryz.underlying425
  a65 := Tryz.isAgg425
  z65 := Tryz.sizeOf425
  v65 := Tryz.zeroValue425
  i65 := by kernel_rfl
  t66 := Tryz.underlying426
  a66 := Tryz.isAgg426
  z66 := Tryz.sizeOf426
  v66 := Tryz.zeroValue426
  i66 := by kernel_rfl
  t67 := Tryz.underlying361
  a67 := Tryz.isAgg361
  z67 := Tryz.sizeOf361
  v67 := Tryz.zeroValue361
  i67 := by kernel_rfl
  g0 := by kernel_rfl
  m0 := by kernel_rfl
  g1 := by kernel_rfl
  m1 := by kernel_rfl
  g2 := by kernel_rfl
  m2 := by kernel_rfl
  g3 := by kernel_rfl
  m3 := by kernel_rfl
  g4 := by kernel_rfl
  m4 := by kernel_rfl }
open Go.RowKit in
theorem Tryz.strconv_ParseUint_10_at64_ok (s : ByteArray) (hmax : s.size ≤ 9223372036854775806) (u : Nat) (h : Lib.parseUintB 64 s.data.toList = .ok u) (w : World) :
    Calls Tryz.prog 367 #[.string s, .int .i64 10, .int .i64 64] w fun e w' => e = .returned (.tuple #[.int .u64 u, .nilIface]) ∧ (w' = w ∨ w' = Lib.bytesWorld w 5 s) := Any.strconv_ParseUint_10_at64_ok Tryz.laysPu14 s hmax u h w
def Tryz.lays219_ren : Go.Shelf.Ren := ⟨fun | 219 => 356 | 217 => 382 | 225 => 376 | 224 => 375 | 267 => 383 | 266 => 394 | 314 => 395 | n => n, fun | 9 => 9 | 3 => 3 | 4 => 4 | 5 => 5 | 46 => 194 | 146 => 413 | 51 => 253 | n => n, fun | 1 => 4 | n => n⟩
theorem Tryz.lays219 : Go.Proofs.Lays.n219 Tryz.prog Tryz.lays219_ren := {
  mixed := by kernel_rfl
  f217 := Tryz.func382.trans (congrArg some (by kernel_rfl))
  f219 := Tryz.func356.trans (congrArg some (by kernel_rfl))
  f224 := Tryz.func375.trans (congrArg some (by kernel_rfl))
  f225 := Tryz.func376.trans (congrArg some (by kernel_rfl))
  f266 := Tryz.func394.trans (congrArg some (by kernel_rfl))
  f267 := Tryz.func383.trans (congrArg some (by kernel_rfl))
  f314 := Tryz.func395.trans (congrArg some (by kernel_rfl))
  t3 := Tryz.underlying3
  a3 := Tryz.isAgg3
  z3 := Tryz.sizeOf3
  v3 := Tryz.zeroValue3
  t4 := Tryz.underlying4
  a4 := Tryz.isAgg4
  z4 := Tryz.sizeOf4
  v4 := Tryz.zeroValue4
  t5 := Tryz.underlying5
  a5 := Tryz.isAgg5
  z5 := Tryz.sizeOf5
  v5 := Tryz.zeroValue5
  t9 := Tryz.underlying9
  a9 := Tryz.isAgg9
  z9 := Tryz.sizeOf9
  v9 := Tryz.zeroValue9
  t46 := Tryz.underlying194
  a46 := Tryz.isAgg194
  z46 := Tryz.sizeOf194
  v46 := Tryz.zeroValue194
  t51 := Tryz.underlying253
  a51 := Tryz.isAgg253
  z51 := Tryz.sizeOf253
  v51 := Tryz.zeroValue253
  t146 := Tryz.underlying413
  a146 := Tryz.isAgg413
  z146 := Tryz.sizeOf413
  v146 := Tryz.zeroValue413
  g1 := by kernel_rfl }
open Go.RowKit Go.Lib in
theorem Tryz.stringslite_Index_one (s : ByteArray) (c : UInt8) (w : World) :
    Calls Tryz.prog 356 #[.string s, .string ⟨#[c]⟩] w fun e w' => e = .returned (.int .i64 (Lib.indexByte s.data.toList c)) ∧ w' = w := Any.stringslite_Index_one Tryz.lays219 s c w
def Tryz.lays99_ren : Go.Shelf.Ren := ⟨fun | 99 => 217 | 206 => 269 | n => n, fun | 9 => 9 | 4 => 4 | 3 => 3 | n => n, fun | n => n⟩
theorem Tryz.lays99 : Go.Proofs.Lays.n99 Tryz.prog Tryz.lays99_ren := {
  mixed := by kernel_rfl
  f99 := Tryz.func217.trans (congrArg some (by kernel_rfl))
  f206 := Tryz.func269.trans (congrArg some (by kernel_rfl))
  t3 := Tryz.underlying3
  a3 := Tryz.isAgg3
  z3 := Tryz.sizeOf3
  v3 := Tryz.zeroValue3
  t4 := Tryz.underlying4
  a4 := Tryz.isAgg4
  z4 := Tryz.sizeOf4
  v4 := Tryz.zeroValue4
  t9 := Tryz.underlying9
  a9 := Tryz.isAgg9
  z9 := Tryz.sizeOf9
  v9 := Tryz.zeroValue9 }
open Go.RowKit Go.Lib in
theorem Tryz.strings_HasPrefix (s p : ByteArray) (w : World) :
    Calls Tryz.prog 217 #[.string s, .string p] w fun e w' => e = .returned (.bool (Lib.hasPrefix s.data.toList p.data.toList)) ∧ w' = w := Any.strings_HasPrefix Tryz.lays99 s p w
def Tryz.lays101_ren : Go.Shelf.Ren := ⟨fun | 101 => 263 | 208 => 313 | 206 => 269 | n => n, fun | 9 => 9 | 4 => 4 | 3 => 3 | n => n, fun | n => n⟩
theorem Tryz.lays101 : Go.Proofs.Lays.n101 Tryz.prog Tryz.lays101_ren := {
  mixed := by kernel_rfl
  f101 := Tryz.func263.trans (congrArg some (by kernel_rfl))
  f206 := Tryz.func269.trans (congrArg some (by kernel_rfl))
  f208 := Tryz.func313.trans (congrArg some (by kernel_rfl))
  t3 := Tryz.underlying3
  a3 := Tryz.isAgg3
  z3 := Tryz.sizeOf3
  v3 := Tryz.zeroValue3
  t4 := Tryz.underlying4
  a4 := Tryz.isAgg4
  z4 := Tryz.sizeOf4
  v4 := Tryz.zeroValue4
  t9 := Tryz.underlying9
  a9 := Tryz.isAgg9
  z9 := Tryz.sizeOf9
  v9 := Tryz.zeroValue9 }
open Go.RowKit Go.Lib in
theorem Tryz.strings_TrimPrefix (s p : ByteArray) (w : World) :
    Calls Tryz.prog 263 #[.string s, .string p] w fun e w' => e = .returned (.string ⟨(Lib.trimPrefix s.data.toList p.data.toList).toArray⟩) ∧ w' = w := Any.strings_TrimPrefix Tryz.lays101 s p w
def Tryz.lays105_ren : Go.Shelf.Ren := ⟨fun | 105 => 324 | 212 => 364 | 99 => 217 | 165 => 365 | 166 => 323 | 170 => 325 | 169 => 326 | 263 => 385 | 264 => 386 | 206 => 269 | 240 => 363 | 241 => 387 | 276 => 384 | 277 => 396 | n => n, fun | 9 => 9 | 3 => 3 | 4 => 4 | 20 => 20 | 0 => 0 | 46 => 194 | 109 => 388 | 5 => 5 | 72 => 355 | 76 => 280 | 51 => 253 | 146 => 413 | 53 => 255 | 148 => 415 | 70 => 353 | 37 => 105 | 75 => 279 | 127 => 391 | 164 => 411 | 80 => 361 | n => n, fun | n => n⟩
theorem Tryz.lays105 : Go.Proofs.Lays.n105 Tryz.prog Tryz.lays105_ren := {
  mixed := by kernel_rfl
  f99 := Tryz.func217.trans (congrArg some (by kernel_rfl))
  f105 := Tryz.func324.trans (congrArg some (by kernel_rfl))
  f165 := Tryz.func365.trans (congrArg some (by kernel_rfl))
  f166 := Tryz.func323.trans (congrArg some (by kernel_rfl))
  f169 := Tryz.func326.trans (congrArg some (by kernel_rfl))
  f170 := Tryz.func325.trans (congrArg some (by kernel_rfl))
  f206 := Tryz.func269.trans (congrArg some (by kernel_rfl))
  f212 := Tryz.func364.trans (congrArg some (by kernel_rfl))
  f240 := Tryz.func363.trans (congrArg some (by kernel_rfl))
  f241 := Tryz.func387.trans (congrArg some (by kernel_rfl))
  f263 := Tryz.func385.trans (congrArg some (by kernel_rfl))
  f264 := Tryz.func386.trans (congrArg some (by kernel_rfl))
  f276 := Tryz.func384.trans (congrArg some (by kernel_rfl))
  f277 := Tryz.func396.trans (congrArg some (by kernel_rfl))
  t0 := Tryz.underlying0
  a0 := Tryz.isAgg0
  z0 := Tryz.sizeOf0
  v0 := Tryz.zeroValue0
  t3 := Tryz.underlying3
  a3 := Tryz.isAgg3
  z3 := Tryz.sizeOf3
  v3 := Tryz.zeroValue3
  t4 := Tryz.underlying4
  a4 := Tryz.isAgg4
  z4 := Tryz.sizeOf4
  v4 := Tryz.zeroValue4
  t5 := Tryz.underlying5
  a5 := Tryz.isAgg5
  z5 := Tryz.sizeOf5
  v5 := Tryz.zeroValue5
  t9 := Tryz.underlying9
  a9 := Tryz.isAgg9
  z9 := Tryz.sizeOf9
  v9 := Tryz.zeroValue9
  t20 := Tryz.underlying20
  a20 := Tryz.isAgg20
  z20 := Tryz.sizeOf20
  v20 := Tryz.zeroValue20
  t37 := Tryz.underlying105
  a37 := Tryz.isAgg105
  z37 := Tryz.sizeOf105
  v37 := Tryz.zeroValue105
  t46 := Tryz.underlying194
  a46 := Tryz.isAgg194
  z46 := Tryz.sizeOf194
  v46 := Tryz.zeroValue194
  t51 := Tryz.underlying253
  a51 := Tryz.isAgg253
  z51 := Tryz.sizeOf253
  v51 := Tryz.zeroValue253
  t53 := Tryz.underlying255
  a53 := Tryz.isAgg255
  z53 := Tryz.sizeOf255
  v53 := Tryz.zeroValue255
  t70 := Tryz.underlying353
  a70 := Tryz.isAgg353
  z70 := Tryz.sizeOf353
  v70 := Tryz.zeroValue353
  t72 := Tryz.underlying355
  a72 := Tryz.isAgg355
  z72 := Tryz.sizeOf355
  v72 := Tryz.zeroValue355
  t75 := Tryz.underlying279
  a75 := Tryz.isAgg279
  z75 := Tryz.sizeOf279
  v75 := Tryz.zeroValue279
  t76 := Tryz.underlying280
  a76 := Tryz.isAgg280
  z76 := Tryz.sizeOf280
  v76 := Tryz.zeroValue280
  t109 := Tryz.underlying388
  a109 := Tryz.isAgg388
  z109 := Tryz.sizeOf388
  v109 := Tryz.zeroValue388
  t127 := Tryz.underlying391
  a127 := Tryz.isAgg391
  z127 := Tryz.sizeOf391
  v127 := Tryz.zeroValue391
  t146 := Tryz.underlying413
  a146 := Tryz.isAgg413
  z146 := Tryz.sizeOf413
  v146 := Tryz.zeroValue413
  t148 := Tryz.underlying415
  a148 := Tryz.isAgg415
  z148 := Tryz.sizeOf415
  v148 := Tryz.zeroValue415
  t164 := Tryz.underlying411
  a164 := Tryz.isAgg411
  z164 := Tryz.sizeOf411
  v164 := Tryz.zeroValue411 }
theorem Tryz.Builder_Extra_105 : Builder.Extra Tryz.prog Tryz.lays105_ren := {
  sizeBuilder := by kernel_rfl
  liesBuilder := by kernel_rfl
  t5 := Tryz.underlying5
  a5 := Tryz.isAgg5
  z5 := Tryz.sizeOf5
  v5 := Tryz.zeroValue5
  infoByte := by kernel_rfl
  cellsByte := by kernel_rfl
  sizeByte := by kernel_rfl
  neB5 := by decide }
open Go.RowKit Go.Lib in
theorem Tryz.strings_Repeat (s : ByteArray) (c : Nat) (w : World) (hc : c ≤ 9223372036854775807) (hlen : s.size * c ≤ 140737488355328) :
    Calls Tryz.prog 324 #[.string s, .int .i64 c] w fun e w' => e = .returned (.string ⟨(Lib.repeatL s.data.toList c).toArray⟩) ∧ Below w.heap.size w w' := Any.strings_Repeat Tryz.lays105 Tryz.Builder_Extra_105 s c w hc hlen
end Go.Proofs
