/- Lemmas and contracts of functions, joined for the claim: Shelf. -/
import Derived.Shelf.Strings.Builder1
import Derived.Shelf.Strings.Builder2
import Derived.Shelf.Strings.Trim
import Derived.Shelf.Small.Utf8
import Derived.Shelf.Small.Strs
import Derived.Shelf.Small.Wraps
import Derived.Shelf.Strings.BuilderF
import Derived.Shelf.Strings.BuilderK
import Derived.Shelf.Strconv.Atoi
import Derived.Shelf.Strconv.Itoa0
import Derived.Shelf.Strconv.Itoa1
import Derived.Shelf.LaysM
import Derived.Shelf.Strconv.Itoa2
import Derived.Shelf.Strconv.Itoa3
import Derived.Shelf.Strconv.AtoiErrFast
import Derived.Shelf.Strconv.ParseIntEmpty
import Derived.Shelf.Strconv.AtoiFail
import Derived.Shelf.Strconv.Clone
import Derived.Shelf.Strconv.SyntaxError
import Derived.Shelf.LaysC
import Derived.Shelf.Strconv.ToError
import Derived.Shelf.Strconv.Lower
import Derived.Shelf.Strconv.ParseUint10
import Derived.Shelf.Strconv.ParseUint10Empty
import Derived.Shelf.Strconv.ParseUint10Any
import Derived.Shelf.Strconv.ParseInt10
import Derived.Shelf.Strconv.AtoiLong
import Derived.Shelf.Strconv.AtoiInnerAll
import Derived.Shelf.Strconv.RangeError
import Derived.Shelf.Strconv.ToErrorRange
import Derived.Shelf.Strconv.AtoiAll
import Derived.Shelf.Strconv.ErrVarAll
import Derived.Ground.MpProg
import Derived.Shelf.Pu.ParseUintPublic10
import Derived.Shelf.Strings.Search1
import Derived.Shelf.Strings.Search2
import Derived.Shelf.Strings.Cut
import Derived.Shelf.Strings.Shaped
import Derived.Shelf.Strings.Prefix
import Derived.Shelf.Strings.Runes
import Derived.Shelf.Strings.AsciiSet
import Derived.Shelf.Bits.Mul64
import Derived.Shelf.Strings.Repeat
import Derived.Shelf.Unicode.DecodeSlow
import Derived.Shelf.Unicode.DecodeAny
import Derived.Shelf.Slices.Equal
import Derived.Test.YtpinmgoeapakdaaGreatDoorProg
namespace Go.Proofs
open Go.Shelf
def Tryz.lays170_ren : Go.Shelf.Ren := ⟨fun | 170 => 215 | n => n, fun | 70 => 219 | 3 => 3 | 0 => 0 | 72 => 221 | 37 => 155 | 5 => 5 | n => n, fun | n => n⟩
theorem Tryz.lays170 : Go.Proofs.Lays.n170 Tryz.prog Tryz.lays170_ren := {
  mixed := by kernel_rfl
  f170 := Tryz.func215.trans (congrArg some (by kernel_rfl))
  t0 := Tryz.underlying0
  a0 := Tryz.isAgg0
  z0 := Tryz.sizeOf0
  v0 := Tryz.zeroValue0
  t3 := Tryz.underlying3
  a3 := Tryz.isAgg3
  z3 := Tryz.sizeOf3
  v3 := Tryz.zeroValue3
  t37 := Tryz.underlying155
  a37 := Tryz.isAgg155
  z37 := Tryz.sizeOf155
  v37 := Tryz.zeroValue155
  t70 := Tryz.underlying219
  a70 := Tryz.isAgg219
  z70 := Tryz.sizeOf219
  v70 := Tryz.zeroValue219
  t72 := Tryz.underlying221
  a72 := Tryz.isAgg221
  z72 := Tryz.sizeOf221
  v72 := Tryz.zeroValue221 }
def Tryz.lays169_ren : Go.Shelf.Ren := ⟨fun | 169 => 216 | n => n, fun | 70 => 219 | 9 => 9 | 0 => 0 | 72 => 221 | 37 => 155 | 127 => 259 | 3 => 3 | 5 => 5 | n => n, fun | n => n⟩
theorem Tryz.lays169 : Go.Proofs.Lays.n169 Tryz.prog Tryz.lays169_ren := {
  mixed := by kernel_rfl
  f169 := Tryz.func216.trans (congrArg some (by kernel_rfl))
  t0 := Tryz.underlying0
  a0 := Tryz.isAgg0
  z0 := Tryz.sizeOf0
  v0 := Tryz.zeroValue0
  t3 := Tryz.underlying3
  a3 := Tryz.isAgg3
  z3 := Tryz.sizeOf3
  v3 := Tryz.zeroValue3
  t9 := Tryz.underlying9
  a9 := Tryz.isAgg9
  z9 := Tryz.sizeOf9
  v9 := Tryz.zeroValue9
  t37 := Tryz.underlying155
  a37 := Tryz.isAgg155
  z37 := Tryz.sizeOf155
  v37 := Tryz.zeroValue155
  t70 := Tryz.underlying219
  a70 := Tryz.isAgg219
  z70 := Tryz.sizeOf219
  v70 := Tryz.zeroValue219
  t72 := Tryz.underlying221
  a72 := Tryz.isAgg221
  z72 := Tryz.sizeOf221
  v72 := Tryz.zeroValue221
  t127 := Tryz.underlying259
  a127 := Tryz.isAgg259
  z127 := Tryz.sizeOf259
  v127 := Tryz.zeroValue259 }
theorem Tryz.Builder_Extra_169 : Builder.Extra Tryz.prog Tryz.lays169_ren := {
  sizeBuilder := by kernel_rfl
  liesBuilder := by kernel_rfl
  t5 := Tryz.underlying5
  a5 := Tryz.isAgg5
  z5 := Tryz.sizeOf5
  v5 := Tryz.zeroValue5
  infoByte := by kernel_rfl
  cellsByte := by kernel_rfl
  sizeByte := by kernel_rfl
  neB5 := by decide }
def Tryz.lays160_ren : Go.Shelf.Ren := ⟨fun | 160 => 134 | 232 => 192 | 231 => 191 | 227 => 193 | 234 => 195 | 233 => 194 | 236 => 197 | 235 => 196 | 228 => 241 | 271 => 244 | 151 => 243 | 197 => 242 | 120 => 268 | 152 => 267 | 260 => 266 | 137 => 284 | 119 => 285 | 224 => 271 | 225 => 270 | 217 => 269 | 266 => 286 | n => n, fun | 9 => 9 | 4 => 4 | 3 => 3 | 5 => 5 | 117 => 206 | 116 => 205 | 0 => 0 | 124 => 209 | 21 => 21 | 105 => 246 | 46 => 109 | 119 => 285 | 139 => 288 | 138 => 287 | n => n, fun | 3 => 3 | 4 => 4 | n => n⟩
theorem Tryz.lays160 : Go.Proofs.Lays.n160 Tryz.prog Tryz.lays160_ren := {
  mixed := by kernel_rfl
  f119 := Tryz.func285.trans (congrArg some (by kernel_rfl))
  f120 := Tryz.func268.trans (congrArg some (by kernel_rfl))
  f137 := Tryz.func284.trans (congrArg some (by kernel_rfl))
  f151 := Tryz.func243.trans (congrArg some (by kernel_rfl))
  f152 := Tryz.func267.trans (congrArg some (by kernel_rfl))
  f160 := Tryz.func134.trans (congrArg some (by kernel_rfl))
  f197 := Tryz.func242.trans (congrArg some (by kernel_rfl))
  f217 := Tryz.func269.trans (congrArg some (by kernel_rfl))
  f224 := Tryz.func271.trans (congrArg some (by kernel_rfl))
  f225 := Tryz.func270.trans (congrArg some (by kernel_rfl))
  f227 := Tryz.func193.trans (congrArg some (by kernel_rfl))
  f228 := Tryz.func241.trans (congrArg some (by kernel_rfl))
  f231 := Tryz.func191.trans (congrArg some (by kernel_rfl))
  f232 := Tryz.func192.trans (congrArg some (by kernel_rfl))
  f233 := Tryz.func194.trans (congrArg some (by kernel_rfl))
  f234 := Tryz.func195.trans (congrArg some (by kernel_rfl))
  f235 := Tryz.func196.trans (congrArg some (by kernel_rfl))
  f236 := Tryz.func197.trans (congrArg some (by kernel_rfl))
  f260 := Tryz.func266.trans (congrArg some (by kernel_rfl))
  f266 := Tryz.func286.trans (congrArg some (by kernel_rfl))
  f271 := Tryz.func244.trans (congrArg some (by kernel_rfl))
  t0 := Tryz.underlying0
  a0 := Tryz.isAgg0
  z0 := Tryz.sizeOf0
  v0 := Tryz.zeroValue0
  t3 := Tryz.underlying3
  a3 := Tryz.isAgg3
  z3 := Tryz.sizeOf3
  v3 := Tryz.zeroValue3
  t4 := Tryz.underlying4
  a4 := Tryz.isAgg4
  z4 := Tryz.sizeOf4
  v4 := Tryz.zeroValue4
  t5 := Tryz.underlying5
  a5 := Tryz.isAgg5
  z5 := Tryz.sizeOf5
  v5 := Tryz.zeroValue5
  t9 := Tryz.underlying9
  a9 := Tryz.isAgg9
  z9 := Tryz.sizeOf9
  v9 := Tryz.zeroValue9
  t21 := Tryz.underlying21
  a21 := Tryz.isAgg21
  z21 := Tryz.sizeOf21
  v21 := Tryz.zeroValue21
  t46 := Tryz.underlying109
  a46 := Tryz.isAgg109
  z46 := Tryz.sizeOf109
  v46 := Tryz.zeroValue109
  t105 := Tryz.underlying246
  a105 := Tryz.isAgg246
  z105 := Tryz.sizeOf246
  v105 := Tryz.zeroValue246
  t116 := Tryz.underlying205
  a116 := Tryz.isAgg205
  z116 := Tryz.sizeOf205
  t117 := Tryz.underlying206
  a117 := Tryz.isAgg206
  z117 := Tryz.sizeOf206
  v117 := Tryz.zeroValue206
  t119 := Tryz.underlying285
  a119 := Tryz.isAgg285
  z119 := Tryz.sizeOf285
  t124 := Tryz.underlying209
  a124 := Tryz.isAgg209
  z124 := Tryz.sizeOf209
  v124 := Tryz.zeroValue209
  t138 := Tryz.underlying287
  a138 := Tryz.isAgg287
  z138 := Tryz.sizeOf287
  v138 := Tryz.zeroValue287
  t139 := Tryz.underlying288
  a139 := Tryz.isAgg288
  z139 := Tryz.sizeOf288
  v139 := Tryz.zeroValue288
  g3 := by kernel_rfl
  g4 := by kernel_rfl }
open Go.RowKit in
theorem Tryz.Builder_Len_f (B b : Nat) (bs : List Value) (w : World) (h : Lib.IsBuilderF 221 5 B b bs w) :
    Calls Tryz.prog 215 #[.pointer (some ⟨b, 0, none⟩)] w fun e w' => e = .returned (.int .i64 bs.length) ∧ w' = w := Any.Builder_Len_f Tryz.lays170 B b bs w h
open Go.RowKit in
theorem Tryz.Builder_String_any_k (B b : Nat) (l : List UInt8) (w : World) (h : Lib.IsBuilderF 221 5 B b (Lib.byteCells l) w) (hBw : B ≤ w.heap.size) :
    Calls Tryz.prog 216 #[.pointer (some ⟨b, 0, none⟩)] w fun e w' => e = .returned (.string ⟨l.toArray⟩) ∧ (Lib.IsBuilderF 221 5 B b (Lib.byteCells l) w' ∧ Below B w w' ∧ Lib.OthersKept 5 (some b) w w') := Any.Builder_String_any_k Tryz.lays169 Tryz.Builder_Extra_169 B b l w h hBw
def Tryz.lays283_ren : Go.Shelf.Ren := ⟨fun | 283 => 274 | n => n, fun | 3 => 3 | 9 => 9 | 4 => 4 | n => n, fun | n => n⟩
theorem Tryz.lays283 : Go.Proofs.Lays.n283 Tryz.prog Tryz.lays283_ren := {
  mixed := by kernel_rfl
  f283 := Tryz.func274.trans (congrArg some (by kernel_rfl))
  t3 := Tryz.underlying3
  a3 := Tryz.isAgg3
  z3 := Tryz.sizeOf3
  v3 := Tryz.zeroValue3
  t4 := Tryz.underlying4
  a4 := Tryz.isAgg4
  z4 := Tryz.sizeOf4
  v4 := Tryz.zeroValue4
  t9 := Tryz.underlying9
  a9 := Tryz.isAgg9
  z9 := Tryz.sizeOf9
  v9 := Tryz.zeroValue9 }
open Go.Lib in
theorem Tryz.internal_strconv_small (i : Nat) (h : i < 100) (w : World) :
    Calls Tryz.prog 274 #[.int .i64 i] w fun e w' => e = .returned (.string ⟨(Lib.decDigits i).toArray⟩) ∧ w' = w := Any.internal_strconv_small Tryz.lays283 i h w
def Tryz.laysM284_ren : Go.Shelf.Ren := ⟨fun | 284 => 275 | 129 => 289 | 317 => 288 | 318 => 290 | n => n, fun | 53 => 225 | 3 => 3 | 212 => 292 | 0 => 0 | 4 => 4 | 46 => 109 | 5 => 5 | 9 => 9 | n => n, fun | 17 => 5 | n => n⟩
theorem Tryz.laysM284 : Go.Proofs.LaysM.n284 Tryz.prog Tryz.laysM284_ren := {
  mixed := by kernel_rfl
  f129 := Tryz.func289.trans (congrArg some (by kernel_rfl))
  f284 := Tryz.func275.trans (congrArg some (by kernel_rfl))
  f317 := Tryz.func288.trans (congrArg some (by kernel_rfl))
  f318 := Tryz.func290.trans (congrArg some (by kernel_rfl))
  t0 := Tryz.underlying0
  a0 := Tryz.isAgg0
  z0 := Tryz.sizeOf0
  v0 := Tryz.zeroValue0
  t3 := Tryz.underlying3
  a3 := Tryz.isAgg3
  z3 := Tryz.sizeOf3
  v3 := Tryz.zeroValue3
  t4 := Tryz.underlying4
  a4 := Tryz.isAgg4
  z4 := Tryz.sizeOf4
  v4 := Tryz.zeroValue4
  t5 := Tryz.underlying5
  a5 := Tryz.isAgg5
  z5 := Tryz.sizeOf5
  v5 := Tryz.zeroValue5
  t9 := Tryz.underlying9
  a9 := Tryz.isAgg9
  z9 := Tryz.sizeOf9
  v9 := Tryz.zeroValue9
  t46 := Tryz.underlying109
  a46 := Tryz.isAgg109
  z46 := Tryz.sizeOf109
  v46 := Tryz.zeroValue109
  t53 := Tryz.underlying225
  a53 := Tryz.isAgg225
  z53 := Tryz.sizeOf225
  v53 := Tryz.zeroValue225
  t212 := Tryz.underlying292
  a212 := Tryz.isAgg292
  z212 := Tryz.sizeOf292
  v212 := Tryz.zeroValue292
  g17 := by kernel_rfl
  i0 := by kernel_rfl
  i3 := by kernel_rfl
  i4 := by kernel_rfl
  i5 := by kernel_rfl
  i9 := by kernel_rfl
  i46 := by kernel_rfl
  i53 := by kernel_rfl
  i212 := by kernel_rfl
  m17 := by kernel_rfl }
open Go.Lib in
theorem Tryz.internal_strconv_numDigits (u : Nat) (h1 : 1 ≤ u) (h2 : u < 18446744073709551616) (w : World) (htab : Lib.TabIs Tryz.prog w "internal/strconv.uint64pow10" .u64 Lib.pow10Tab) :
    Calls Tryz.prog 275 #[.int .u64 u] w fun e w' => e = .returned (.int .i64 (Lib.nDigits u)) ∧ w' = w := Any.internal_strconv_numDigits Tryz.laysM284 u h1 h2 w htab
def Tryz.lays285_ren : Go.Shelf.Ren := ⟨fun | 285 => 276 | n => n, fun | 37 => 155 | 53 => 225 | 3 => 3 | 4 => 4 | 51 => 276 | 9 => 9 | 5 => 5 | 0 => 0 | n => n, fun | n => n⟩
theorem Tryz.lays285 : Go.Proofs.Lays.n285 Tryz.prog Tryz.lays285_ren := {
  mixed := by kernel_rfl
  f285 := Tryz.func276.trans (congrArg some (by kernel_rfl))
  t0 := Tryz.underlying0
  a0 := Tryz.isAgg0
  z0 := Tryz.sizeOf0
  v0 := Tryz.zeroValue0
  t3 := Tryz.underlying3
  a3 := Tryz.isAgg3
  z3 := Tryz.sizeOf3
  v3 := Tryz.zeroValue3
  t4 := Tryz.underlying4
  a4 := Tryz.isAgg4
  z4 := Tryz.sizeOf4
  v4 := Tryz.zeroValue4
  t5 := Tryz.underlying5
  a5 := Tryz.isAgg5
  z5 := Tryz.sizeOf5
  v5 := Tryz.zeroValue5
  t9 := Tryz.underlying9
  a9 := Tryz.isAgg9
  z9 := Tryz.sizeOf9
  v9 := Tryz.zeroValue9
  t37 := Tryz.underlying155
  a37 := Tryz.isAgg155
  z37 := Tryz.sizeOf155
  v37 := Tryz.zeroValue155
  t51 := Tryz.underlying276
  a51 := Tryz.isAgg276
  z51 := Tryz.sizeOf276
  v51 := Tryz.zeroValue276
  t53 := Tryz.underlying225
  a53 := Tryz.isAgg225
  z53 := Tryz.sizeOf225
  v53 := Tryz.zeroValue225 }
open Go.RowKit Go.Sort Go.Lib in
theorem Tryz.internal_strconv_formatBase10 (blk off cap : Nat) (u : Nat) (d : Array UInt8) (w : World) (hH : Holds (fun (b : UInt8) => Value.int .u8 (b.toNat : Int)) w blk off d) (hu : u < 10 ^ d.size) (hu64 : u < 18446744073709551616) (hsz : d.size < 4611686018427387904) :
    Calls Tryz.prog 276 #[.slice (some ⟨blk, off, none⟩) d.size cap, .int .u64 u] w fun e w' =>
      e = .returned (.tuple #[]) ∧ ∃ (n v' : Nat) (dk : Array UInt8), w' = (putRow (fun (b : UInt8) => Value.int .u8 (b.toNat : Int)) w blk off dk).drewN n ∧ FmtInv d.size u 0 v' dk := Any.internal_strconv_formatBase10 Tryz.lays285 blk off cap u d w hH hu hu64 hsz
def Tryz.laysM171_ren : Go.Shelf.Ren := ⟨fun | 171 => 159 | 243 => 206 | 246 => 252 | 283 => 274 | 284 => 275 | 285 => 276 | 286 => 277 | 129 => 289 | 317 => 288 | 318 => 290 | 319 => 291 | 320 => 292 | 337 => 294 | 338 => 295 | n => n, fun | 3 => 3 | 9 => 9 | 2 => 2 | 4 => 4 | 171 => 269 | 0 => 0 | 53 => 225 | 37 => 155 | 5 => 5 | 173 => 272 | 212 => 292 | 51 => 276 | 20 => 20 | 213 => 293 | 46 => 109 | 232 => 297 | 233 => 298 | n => n, fun | 17 => 5 | 18 => 6 | 19 => 7 | n => n⟩
theorem Tryz.laysM171 : Go.Proofs.LaysM.n171 Tryz.prog Tryz.laysM171_ren := {
  mixed := by kernel_rfl
  f129 := Tryz.func289.trans (congrArg some (by kernel_rfl))
  f171 := Tryz.func159.trans (congrArg some (by kernel_rfl))
  f243 := Tryz.func206.trans (congrArg some (by kernel_rfl))
  f246 := Tryz.func252.trans (congrArg some (by kernel_rfl))
  f283 := Tryz.func274.trans (congrArg some (by kernel_rfl))
  f284 := Tryz.func275.trans (congrArg some (by kernel_rfl))
  f285 := Tryz.func276.trans (congrArg some (by kernel_rfl))
  f286 := Tryz.func277.trans (congrArg some (by kernel_rfl))
  f317 := Tryz.func288.trans (congrArg some (by kernel_rfl))
  f318 := Tryz.func290.trans (congrArg some (by kernel_rfl))
  f319 := Tryz.func291.trans (congrArg some (by kernel_rfl))
  f320 := Tryz.func292.trans (congrArg some (by kernel_rfl))
  f337 := Tryz.func294.trans (congrArg some (by kernel_rfl))
  f338 := Tryz.func295.trans (congrArg some (by kernel_rfl))
  t0 := Tryz.underlying0
  a0 := Tryz.isAgg0
  z0 := Tryz.sizeOf0
  v0 := Tryz.zeroValue0
  t2 := Tryz.underlying2
  a2 := Tryz.isAgg2
  z2 := Tryz.sizeOf2
  v2 := Tryz.zeroValue2
  t3 := Tryz.underlying3
  a3 := Tryz.isAgg3
  z3 := Tryz.sizeOf3
  v3 := Tryz.zeroValue3
  t4 := Tryz.underlying4
  a4 := Tryz.isAgg4
  z4 := Tryz.sizeOf4
  v4 := Tryz.zeroValue4
  t5 := Tryz.underlying5
  a5 := Tryz.isAgg5
  z5 := Tryz.sizeOf5
  v5 := Tryz.zeroValue5
  t9 := Tryz.underlying9
  a9 := Tryz.isAgg9
  z9 := Tryz.sizeOf9
  v9 := Tryz.zeroValue9
  t20 := Tryz.underlying20
  a20 := Tryz.isAgg20
  z20 := Tryz.sizeOf20
  v20 := Tryz.zeroValue20
  t37 := Tryz.underlying155
  a37 := Tryz.isAgg155
  z37 := Tryz.sizeOf155
  v37 := Tryz.zeroValue155
  t46 := Tryz.underlying109
  a46 := Tryz.isAgg109
  z46 := Tryz.sizeOf109
  v46 := Tryz.zeroValue109
  t51 := Tryz.underlying276
  a51 := Tryz.isAgg276
  z51 := Tryz.sizeOf276
  v51 := Tryz.zeroValue276
  t53 := Tryz.underlying225
  a53 := Tryz.isAgg225
  z53 := Tryz.sizeOf225
  v53 := Tryz.zeroValue225
  t171 := Tryz.underlying269
  a171 := Tryz.isAgg269
  z171 := Tryz.sizeOf269
  v171 := Tryz.zeroValue269
  t173 := Tryz.underlying272
  a173 := Tryz.isAgg272
  z173 := Tryz.sizeOf272
  v173 := Tryz.zeroValue272
  t212 := Tryz.underlying292
  a212 := Tryz.isAgg292
  z212 := Tryz.sizeOf292
  v212 := Tryz.zeroValue292
  t213 := Tryz.underlying293
  a213 := Tryz.isAgg293
  z213 := Tryz.sizeOf293
  t232 := Tryz.underlying297
  a232 := Tryz.isAgg297
  z232 := Tryz.sizeOf297
  v232 := Tryz.zeroValue297
  t233 := Tryz.underlying298
  a233 := Tryz.isAgg298
  z233 := Tryz.sizeOf298
  v233 := Tryz.zeroValue298
  g17 := by kernel_rfl
  g18 := by kernel_rfl
  g19 := by kernel_rfl
  i0 := by kernel_rfl
  i2 := by kernel_rfl
  i3 := by kernel_rfl
  i4 := by kernel_rfl
  i5 := by kernel_rfl
  i9 := by kernel_rfl
  i20 := by kernel_rfl
  i37 := by kernel_rfl
  i46 := by kernel_rfl
  i51 := by kernel_rfl
  i53 := by kernel_rfl
  i171 := by kernel_rfl
  i173 := by kernel_rfl
  i212 := by kernel_rfl
  i232 := by kernel_rfl
  i233 := by kernel_rfl
  m17 := by kernel_rfl
  m18 := by kernel_rfl
  m19 := by kernel_rfl }
open Go.RowKit Go.Sort Go.Lib in
theorem Tryz.strconv_Itoa (n : Int) (h0 : -9223372036854775808 ≤ n) (h1 : n ≤ 9223372036854775807) (w : World) (htab : Lib.TabIs Tryz.prog w "internal/strconv.uint64pow10" .u64 Lib.pow10Tab) :
    Calls Tryz.prog 159 #[.int .i64 n] w fun e w' => e = .returned (.string ⟨(Lib.itoa n).toArray⟩) ∧ ∃ k os, w' = grow (w.drewN k) os := Any.strconv_Itoa Tryz.laysM171 n h0 h1 w htab
def Tryz.laysC172_ren : Go.Shelf.Ren := ⟨fun | 172 => 115 | 244 => 171 | 245 => 172 | 247 => 222 | 279 => 223 | 280 => 224 | 281 => 225 | 282 => 226 | 287 => 262 | 316 => 263 | 171 => 159 | 205 => 264 | 321 => 282 | 322 => 283 | 243 => 206 | 246 => 252 | 283 => 274 | 284 => 275 | 285 => 276 | 286 => 277 | 129 => 289 | 317 => 288 | 318 => 290 | 319 => 291 | 320 => 292 | 337 => 294 | 338 => 295 | n => n, fun | 9 => 9 | 3 => 3 | 75 => 146 | 76 => 147 | 4 => 4 | 5 => 5 | 167 => 234 | 37 => 155 | 0 => 0 | 85 => 235 | 2 => 2 | 168 => 237 | 53 => 225 | 175 => 261 | 46 => 109 | 210 => 265 | 127 => 259 | 145 => 284 | 143 => 282 | 21 => 21 | 171 => 269 | 173 => 272 | 212 => 292 | 51 => 276 | 20 => 20 | 213 => 293 | 232 => 297 | 233 => 298 | 80 => 228 | n => n, fun | 15 => 0 | 16 => 1 | 17 => 5 | 18 => 6 | 19 => 7 | n => n⟩
theorem Tryz.laysC172 : Go.Proofs.LaysC.n172 Tryz.prog Tryz.laysC172_ren := {
  mixed := by kernel_rfl
  f129 := Tryz.func289.trans (congrArg some (by kernel_rfl))
  f171 := Tryz.func159.trans (congrArg some (by kernel_rfl))
  f172 := Tryz.func115.trans (congrArg some (by kernel_rfl))
  f205 := Tryz.func264.trans (congrArg some (by kernel_rfl))
  f243 := Tryz.func206.trans (congrArg some (by kernel_rfl))
  f244 := Tryz.func171.trans (congrArg some (by kernel_rfl))
  f245 := Tryz.func172.trans (congrArg some (by kernel_rfl))
  f246 := Tryz.func252.trans (congrArg some (by kernel_rfl))
  f247 := Tryz.func222.trans (congrArg some (by kernel_rfl))
  f279 := Tryz.func223.trans (congrArg some (by kernel_rfl))
  f280 := Tryz.func224.trans (congrArg some (by kernel_rfl))
  f281 := Tryz.func225.trans (congrArg some (by kernel_rfl))
  f282 := Tryz.func226.trans (congrArg some (by kernel_rfl))
  f283 := Tryz.func274.trans (congrArg some (by kernel_rfl))
  f284 := Tryz.func275.trans (congrArg some (by kernel_rfl))
  f285 := Tryz.func276.trans (congrArg some (by kernel_rfl))
  f286 := Tryz.func277.trans (congrArg some (by kernel_rfl))
  f287 := Tryz.func262.trans (congrArg some (by kernel_rfl))
  f316 := Tryz.func263.trans (congrArg some (by kernel_rfl))
  f317 := Tryz.func288.trans (congrArg some (by kernel_rfl))
  f318 := Tryz.func290.trans (congrArg some (by kernel_rfl))
  f319 := Tryz.func291.trans (congrArg some (by kernel_rfl))
  f320 := Tryz.func292.trans (congrArg some (by kernel_rfl))
  f321 := Tryz.func282.trans (congrArg some (by kernel_rfl))
  f322 := Tryz.func283.trans (congrArg some (by kernel_rfl))
  f337 := Tryz.func294.trans (congrArg some (by kernel_rfl))
  f338 := Tryz.func295.trans (congrArg some (by kernel_rfl))
  t0 := Tryz.underlying0
  a0 := Tryz.isAgg0
  z0 := Tryz.sizeOf0
  v0 := Tryz.zeroValue0
  t2 := Tryz.underlying2
  a2 := Tryz.isAgg2
  z2 := Tryz.sizeOf2
  v2 := Tryz.zeroValue2
  t3 := Tryz.underlying3
  a3 := Tryz.isAgg3
  z3 := Tryz.sizeOf3
  v3 := Tryz.zeroValue3
  t4 := Tryz.underlying4
  a4 := Tryz.isAgg4
  z4 := Tryz.sizeOf4
  v4 := Tryz.zeroValue4
  t5 := Tryz.underlying5
  a5 := Tryz.isAgg5
  z5 := Tryz.sizeOf5
  v5 := Tryz.zeroValue5
  t9 := Tryz.underlying9
  a9 := Tryz.isAgg9
  z9 := Tryz.sizeOf9
  v9 := Tryz.zeroValue9
  t20 := Tryz.underlying20
  a20 := Tryz.isAgg20
  z20 := Tryz.sizeOf20
  v20 := Tryz.zeroValue20
  t21 := Tryz.underlying21
  a21 := Tryz.isAgg21
  z21 := Tryz.sizeOf21
  v21 := Tryz.zeroValue21
  t37 := Tryz.underlying155
  a37 := Tryz.isAgg155
  z37 := Tryz.sizeOf155
  v37 := Tryz.zeroValue155
  t46 := Tryz.underlying109
  a46 := Tryz.isAgg109
  z46 := Tryz.sizeOf109
  v46 := Tryz.zeroValue109
  t51 := Tryz.underlying276
  a51 := Tryz.isAgg276
  z51 := Tryz.sizeOf276
  v51 := Tryz.zeroValue276
  t53 := Tryz.underlying225
  a53 := Tryz.isAgg225
  z53 := Tryz.sizeOf225
  v53 := Tryz.zeroValue225
  t75 := Tryz.underlying146
  a75 := Tryz.isAgg146
  z75 := Tryz.sizeOf146
  v75 := Tryz.zeroValue146
  t76 := Tryz.underlying147
  a76 := Tryz.isAgg147
  z76 := Tryz.sizeOf147
  v76 := Tryz.zeroValue147
  t85 := Tryz.underlying235
  a85 := Tryz.isAgg235
  z85 := Tryz.sizeOf235
  v85 := Tryz.zeroValue235
  t127 := Tryz.underlying259
  a127 := Tryz.isAgg259
  z127 := Tryz.sizeOf259
  v127 := Tryz.zeroValue259
  t143 := Tryz.underlying282
  a143 := Tryz.isAgg282
  z143 := Tryz.sizeOf282
  v143 := Tryz.zeroValue282
  t145 := Tryz.underlying284
  a145 := Tryz.isAgg284
  z145 := Tryz.sizeOf284
  v145 := Tryz.zeroValue284
  t167 := Tryz.underlying234
  a167 := Tryz.isAgg234
  z167 := Tryz.sizeOf234
  v167 := Tryz.zeroValue234
  t168 := Tryz.underlying237
  a168 := Tryz.isAgg237
  z168 := Tryz.sizeOf237
  v168 := Tryz.zeroValue237
  t171 := Tryz.underlying269
  a171 := Tryz.isAgg269
  z171 := Tryz.sizeOf269
  v171 := Tryz.zeroValue269
  t173 := Tryz.underlying272
  a173 := Tryz.isAgg272
  z173 := Tryz.sizeOf272
  v173 := Tryz.zeroValue272
  t175 := Tryz.underlying261
  a175 := Tryz.isAgg261
  z175 := Tryz.sizeOf261
  v175 := Tryz.zeroValue261
  t210 := Tryz.underlying265
  a210 := Tryz.isAgg265
  z210 := Tryz.sizeOf265
  v210 := Tryz.zeroValue265
  t212 := Tryz.underlying292
  a212 := Tryz.isAgg292
  z212 := Tryz.sizeOf292
  v212 := Tryz.zeroValue292
  t213 := Tryz.underlying293
  a213 := Tryz.isAgg293
  z213 := Tryz.sizeOf293
  t232 := Tryz.underlying297
  a232 := Tryz.isAgg297
  z232 := Tryz.sizeOf297
  v232 := Tryz.zeroValue297
  t233 := Tryz.underlying298
  a233 := Tryz.isAgg298
  z233 := Tryz.sizeOf298
  v233 := Tryz.zeroValue298
  g15 := by kernel_rfl
  g16 := by kernel_rfl
  g17 := by kernel_rfl
  g18 := by kernel_rfl
  g19 := by kernel_rfl
  t80 := Tryz.underlying228
  a80 := Tryz.isAgg228
  z80 := Tryz.sizeOf228
  v80 := Tryz.zeroValue228
  i0 := by kernel_rfl
  i2 := by kernel_rfl
  i3 := by kernel_rfl
  i4 := by kernel_rfl
  i5 := by kernel_rfl
  i9 := by kernel_rfl
  i20 := by kernel_rfl
  i21 := by kernel_rfl
  i37 := by kernel_rfl
  i46 := by kernel_rfl
  i51 := by kernel_rfl
  i53 := by kernel_rfl
  i75 := by kernel_rfl
  i76 := by kernel_rfl
  i80 := by kernel_rfl
  i85 := by kernel_rfl
  i127 := by kernel_rfl
  i143 := by kernel_rfl
  i145 := by kernel_rfl
  i167 := by kernel_rfl
  i168 := by kernel_rfl
  i171 := by kernel_rfl
  i173 := by kernel_rfl
  i175 := by kernel_rfl
  i210 := by kernel_rfl
  i212 := by kernel_rfl
  i232 := by kernel_rfl
  i233 := by kernel_rfl
  m15 := by kernel_rfl
  m16 := by kernel_rfl
  m17 := by kernel_rfl
  m18 := by kernel_rfl
  m19 := by kernel_rfl
  c0 := by kernel_rfl
  c2 := by kernel_rfl
  c3 := by kernel_rfl
  c4 := by kernel_rfl
  c5 := by kernel_rfl
  c9 := by kernel_rfl
  c20 := by kernel_rfl
  c21 := by kernel_rfl
  c37 := by kernel_rfl
  c46 := by kernel_rfl
  c51 := by kernel_rfl
  c53 := by kernel_rfl
  c75 := by kernel_rfl
  c76 := by kernel_rfl
  c80 := by kernel_rfl
  c85 := by kernel_rfl
  c127 := by kernel_rfl
  c143 := by kernel_rfl
  c145 := by kernel_rfl
  c167 := by kernel_rfl
  c168 := by kernel_rfl
  c171 := by kernel_rfl
  c173 := by kernel_rfl
  c175 := by kernel_rfl
  c210 := by kernel_rfl
  c212 := by kernel_rfl
  c213 := by kernel_rfl
  c232 := by kernel_rfl
  c233 := by kernel_rfl }
open Go.RowKit in
theorem Tryz.strconv_Atoi_ok (s : ByteArray) (hmax : s.size ≤ 9223372036854775806) (v : Int) (h : Lib.atoiAll s.data.toList = .ok v) (w : World) :
    Calls Tryz.prog 115 #[.string s] w fun e w' => e = .returned (.tuple #[.int .i64 v, .nilIface]) ∧ (w' = w ∨ ∃ t, w' = Lib.bytesWorld w 5 t) := Any.strconv_Atoi_ok Tryz.laysC172 s hmax v h w
open Go.RowKit in
theorem Tryz.strconv_Atoi_range_var (s : ByteArray) (hlim : s.size ≤ 281474976710656) (h : Lib.atoiAll s.data.toList = .range) (tp : TypeId) (p : Value) (w : World) (hvar : w.var? Tryz.prog "strconv.ErrRange" = some #[.iface tp p]) :
    Calls Tryz.prog 115 #[.string s] w fun e w' => ∃ N, e = .returned (.tuple #[.int .i64 (Lib.atoiSat s.data.toList), .iface 237 (.pointer (some ⟨N, 0, none⟩))]) ∧ w.heap.size ≤ N ∧ w'.heap[N]? = some (.cells #[.string ⟨#[65, 116, 111, 105]⟩, .string s, .iface tp p] 265 (0, 0)) ∧ Below w.heap.size w w' := Any.strconv_Atoi_range_var Tryz.laysC172 s hlim h tp p w hvar
def Tryz.laysPu14_ren : Go.Shelf.Ren := ⟨fun | 14 => 260 | 16 => 262 | 17 => 172 | 19 => 282 | 20 => 283 | 21 => 223 | 22 => 224 | 23 => 225 | 24 => 226 | 25 => 263 | 27 => 159 | 26 => 264 | 28 => 206 | 29 => 252 | 30 => 274 | 31 => 275 | 32 => 276 | 33 => 277 | 35 => 289 | 34 => 288 | 36 => 290 | 37 => 291 | 38 => 292 | 39 => 294 | 40 => 295 | n => n, fun | 9 => 9 | 3 => 3 | 22 => 225 | 24 => 146 | 25 => 261 | 4 => 4 | 34 => 234 | 5 => 5 | 36 => 109 | 37 => 155 | 0 => 0 | 39 => 237 | 21 => 21 | 44 => 265 | 47 => 259 | 50 => 284 | 48 => 282 | 2 => 2 | 52 => 269 | 55 => 272 | 59 => 292 | 60 => 276 | 20 => 20 | 61 => 293 | 65 => 297 | 66 => 298 | 67 => 228 | n => n, fun | 0 => 0 | 1 => 1 | 2 => 5 | 3 => 6 | 4 => 7 | n => n⟩
theorem Tryz.laysPu14 : Go.Proofs.LaysPu.n14 Tryz.prog Tryz.laysPu14_ren := {
  mixed := by kernel_rfl
  f14 := Tryz.func260.trans (congrArg some (by kernel_rfl))
  f16 := Tryz.func262.trans (congrArg some (by kernel_rfl))
  f17 := Tryz.func172.trans (congrArg some (by kernel_rfl))
  f19 := Tryz.func282.trans (congrArg some (by kernel_rfl))
  f20 := Tryz.func283.trans (congrArg some (by kernel_rfl))
  f21 := Tryz.func223.trans (congrArg some (by kernel_rfl))
  f22 := Tryz.func224.trans (congrArg some (by kernel_rfl))
  f23 := Tryz.func225.trans (congrArg some (by kernel_rfl))
  f24 := Tryz.func226.trans (congrArg some (by kernel_rfl))
  f25 := Tryz.func263.trans (congrArg some (by kernel_rfl))
  f26 := Tryz.func264.trans (congrArg some (by kernel_rfl))
  f27 := Tryz.func159.trans (congrArg some (by kernel_rfl))
  f28 := Tryz.func206.trans (congrArg some (by kernel_rfl))
  f29 := Tryz.func252.trans (congrArg some (by kernel_rfl))
  f30 := Tryz.func274.trans (congrArg some (by kernel_rfl))
  f31 := Tryz.func275.trans (congrArg some (by kernel_rfl))
  f32 := Tryz.func276.trans (congrArg some (by kernel_rfl))
  f33 := Tryz.func277.trans (congrArg some (by kernel_rfl))
  f34 := Tryz.func288.trans (congrArg some (by kernel_rfl))
  f35 := Tryz.func289.trans (congrArg some (by kernel_rfl))
  f36 := Tryz.func290.trans (congrArg some (by kernel_rfl))
  f37 := Tryz.func291.trans (congrArg some (by kernel_rfl))
  f38 := Tryz.func292.trans (congrArg some (by kernel_rfl))
  f39 := Tryz.func294.trans (congrArg some (by kernel_rfl))
  f40 := Tryz.func295.trans (congrArg some (by kernel_rfl))
  t0 := Tryz.underlying0
  a0 := Tryz.isAgg0
  z0 := Tryz.sizeOf0
  v0 := Tryz.zeroValue0
  i0 := by kernel_rfl
  t2 := Tryz.underlying2
  a2 := Tryz.isAgg2
  z2 := Tryz.sizeOf2
  v2 := Tryz.zeroValue2
  i2 := by kernel_rfl
  t3 := Tryz.underlying3
  a3 := Tryz.isAgg3
  z3 := Tryz.sizeOf3
  v3 := Tryz.zeroValue3
  i3 := by kernel_rfl
  t4 := Tryz.underlying4
  a4 := Tryz.isAgg4
  z4 := Tryz.sizeOf4
  v4 := Tryz.zeroValue4
  i4 := by kernel_rfl
  t5 := Tryz.underlying5
  a5 := Tryz.isAgg5
  z5 := Tryz.sizeOf5
  v5 := Tryz.zeroValue5
  i5 := by kernel_rfl
  t9 := Tryz.underlying9
  a9 := Tryz.isAgg9
  z9 := Tryz.sizeOf9
  v9 := Tryz.zeroValue9
  i9 := by kernel_rfl
  t20 := Tryz.underlying20
  a20 := Tryz.isAgg20
  z20 := Tryz.sizeOf20
  v20 := Tryz.zeroValue20
  i20 := by kernel_rfl
  t21 := Tryz.underlying21
  a21 := Tryz.isAgg21
  z21 := Tryz.sizeOf21
  v21 := Tryz.zeroValue21
  i21 := by kernel_rfl
  t22 := Tryz.underlying225
  a22 := Tryz.isAgg225
  z22 := Tryz.sizeOf225
  v22 := Tryz.zeroValue225
  i22 := by kernel_rfl
  t24 := Tryz.underlying146
  a24 := Tryz.isAgg146
  z24 := Tryz.sizeOf146
  v24 := Tryz.zeroValue146
  i24 := by kernel_rfl
  t25 := Tryz.underlying261
  a25 := Tryz.isAgg261
  z25 := Tryz.sizeOf261
  v25 := Tryz.zeroValue261
  i25 := by kernel_rfl
  t34 := Tryz.underlying234
  a34 := Tryz.isAgg234
  z34 := Tryz.sizeOf234
  v34 := Tryz.zeroValue234
  i34 := by kernel_rfl
  c34 := by kernel_rfl
  t36 := Tryz.underlying109
  a36 := Tryz.isAgg109
  z36 := Tryz.sizeOf109
  v36 := Tryz.zeroValue109
  i36 := by kernel_rfl
  t37 := Tryz.underlying155
  a37 := Tryz.isAgg155
  z37 := Tryz.sizeOf155
  v37 := Tryz.zeroValue155
  i37 := by kernel_rfl
  t39 := Tryz.underlying237
  a39 := Tryz.isAgg237
  z39 := Tryz.sizeOf237
  v39 := Tryz.zeroValue237
  i39 := by kernel_rfl
  t44 := Tryz.underlying265
  a44 := Tryz.isAgg265
  z44 := Tryz.sizeOf265
  v44 := Tryz.zeroValue265
  i44 := by kernel_rfl
  t47 := Tryz.underlying259
  a47 := Tryz.isAgg259
  z47 := Tryz.sizeOf259
  v47 := Tryz.zeroValue259
  i47 := by kernel_rfl
  t48 := Tryz.underlying282
  a48 := Tryz.isAgg282
  z48 := Tryz.sizeOf282
  v48 := Tryz.zeroValue282
  i48 := by kernel_rfl
  t50 := Tryz.underlying284
  a50 := Tryz.isAgg284
  z50 := Tryz.sizeOf284
  v50 := Tryz.zeroValue284
  i50 := by kernel_rfl
  t52 := Tryz.underlying269
  a52 := Tryz.isAgg269
  z52 := Tryz.sizeOf269
  v52 := Tryz.zeroValue269
  i52 := by kernel_rfl
  t55 := Tryz.underlying272
  a55 := Tryz.isAgg272
  z55 := Tryz.sizeOf272
  v55 := Tryz.zeroValue272
  i55 := by kernel_rfl
  t59 := Tryz.underlying292
  a59 := Tryz.isAgg292
  z59 := Tryz.sizeOf292
  v59 := Tryz.zeroValue292
  i59 := by kernel_rfl
  t60 := Tryz.underlying276
  a60 := Tryz.isAgg276
  z60 := Tryz.sizeOf276
  v60 := Tryz.zeroValue276
  i60 := by kernel_rfl
  t61 := Tryz.underlying293
  a61 := Tryz.isAgg293
  z61 := Tryz.sizeOf293
  t65 := Tryz.underlying297
  a65 := Tryz.isAgg297
  z65 := Tryz.sizeOf297
  v65 := Tryz.zeroValue297
  i65 := by kernel_rfl
  t66 := Tryz.underlying298
  a66 := Tryz.isAgg298
  z66 := Tryz.sizeOf298
  v66 := Tryz.zeroValue298
  i66 := by kernel_rfl
  t67 := Tryz.underlying228
  a67 := Tryz.isAgg228
  z67 := Tryz.sizeOf228
  v67 := Tryz.zeroValue228
  i67 := by kernel_rfl
  g0 := by kernel_rfl
  m0 := by kernel_rfl
  g1 := by kernel_rfl
  m1 := by kernel_rfl
  g2 := by kernel_rfl
  m2 := by kernel_rfl
  g3 := by kernel_rfl
  m3 := by kernel_rfl
  g4 := by kernel_rfl
  m4 := by kernel_rfl }
open Go.RowKit in
theorem Tryz.strconv_ParseUint_10_at64_ok (s : ByteArray) (hmax : s.size ≤ 9223372036854775806) (u : Nat) (h : Lib.parseUintB 64 s.data.toList = .ok u) (w : World) :
    Calls Tryz.prog 260 #[.string s, .int .i64 10, .int .i64 64] w fun e w' => e = .returned (.tuple #[.int .u64 u, .nilIface]) ∧ (w' = w ∨ w' = Lib.bytesWorld w 5 s) := Any.strconv_ParseUint_10_at64_ok Tryz.laysPu14 s hmax u h w
def Tryz.lays219_ren : Go.Shelf.Ren := ⟨fun | 219 => 245 | 217 => 269 | 225 => 270 | 224 => 271 | 267 => 272 | 266 => 286 | 314 => 287 | n => n, fun | 9 => 9 | 3 => 3 | 4 => 4 | 5 => 5 | 46 => 109 | 146 => 277 | 51 => 276 | n => n, fun | 1 => 2 | n => n⟩
theorem Tryz.lays219 : Go.Proofs.Lays.n219 Tryz.prog Tryz.lays219_ren := {
  mixed := by kernel_rfl
  f217 := Tryz.func269.trans (congrArg some (by kernel_rfl))
  f219 := Tryz.func245.trans (congrArg some (by kernel_rfl))
  f224 := Tryz.func271.trans (congrArg some (by kernel_rfl))
  f225 := Tryz.func270.trans (congrArg some (by kernel_rfl))
  f266 := Tryz.func286.trans (congrArg some (by kernel_rfl))
  f267 := Tryz.func272.trans (congrArg some (by kernel_rfl))
  f314 := Tryz.func287.trans (congrArg some (by kernel_rfl))
  t3 := Tryz.underlying3
  a3 := Tryz.isAgg3
  z3 := Tryz.sizeOf3
  v3 := Tryz.zeroValue3
  t4 := Tryz.underlying4
  a4 := Tryz.isAgg4
  z4 := Tryz.sizeOf4
  v4 := Tryz.zeroValue4
  t5 := Tryz.underlying5
  a5 := Tryz.isAgg5
  z5 := Tryz.sizeOf5
  v5 := Tryz.zeroValue5
  t9 := Tryz.underlying9
  a9 := Tryz.isAgg9
  z9 := Tryz.sizeOf9
  v9 := Tryz.zeroValue9
  t46 := Tryz.underlying109
  a46 := Tryz.isAgg109
  z46 := Tryz.sizeOf109
  v46 := Tryz.zeroValue109
  t51 := Tryz.underlying276
  a51 := Tryz.isAgg276
  z51 := Tryz.sizeOf276
  v51 := Tryz.zeroValue276
  t146 := Tryz.underlying277
  a146 := Tryz.isAgg277
  z146 := Tryz.sizeOf277
  v146 := Tryz.zeroValue277
  g1 := by kernel_rfl }
open Go.RowKit Go.Lib in
theorem Tryz.stringslite_Index_one (s : ByteArray) (c : UInt8) (w : World) :
    Calls Tryz.prog 245 #[.string s, .string ⟨#[c]⟩] w fun e w' => e = .returned (.int .i64 (Lib.indexByte s.data.toList c)) ∧ w' = w := Any.stringslite_Index_one Tryz.lays219 s c w
def Tryz.lays99_ren : Go.Shelf.Ren := ⟨fun | 99 => 104 | 206 => 156 | n => n, fun | 9 => 9 | 4 => 4 | 3 => 3 | n => n, fun | n => n⟩
theorem Tryz.lays99 : Go.Proofs.Lays.n99 Tryz.prog Tryz.lays99_ren := {
  mixed := by kernel_rfl
  f99 := Tryz.func104.trans (congrArg some (by kernel_rfl))
  f206 := Tryz.func156.trans (congrArg some (by kernel_rfl))
  t3 := Tryz.underlying3
  a3 := Tryz.isAgg3
  z3 := Tryz.sizeOf3
  v3 := Tryz.zeroValue3
  t4 := Tryz.underlying4
  a4 := Tryz.isAgg4
  z4 := Tryz.sizeOf4
  v4 := Tryz.zeroValue4
  t9 := Tryz.underlying9
  a9 := Tryz.isAgg9
  z9 := Tryz.sizeOf9
  v9 := Tryz.zeroValue9 }
open Go.RowKit Go.Lib in
theorem Tryz.strings_HasPrefix (s p : ByteArray) (w : World) :
    Calls Tryz.prog 104 #[.string s, .string p] w fun e w' => e = .returned (.bool (Lib.hasPrefix s.data.toList p.data.toList)) ∧ w' = w := Any.strings_HasPrefix Tryz.lays99 s p w
def Tryz.lays101_ren : Go.Shelf.Ren := ⟨fun | 101 => 149 | 208 => 200 | 206 => 156 | n => n, fun | 9 => 9 | 4 => 4 | 3 => 3 | n => n, fun | n => n⟩
theorem Tryz.lays101 : Go.Proofs.Lays.n101 Tryz.prog Tryz.lays101_ren := {
  mixed := by kernel_rfl
  f101 := Tryz.func149.trans (congrArg some (by kernel_rfl))
  f206 := Tryz.func156.trans (congrArg some (by kernel_rfl))
  f208 := Tryz.func200.trans (congrArg some (by kernel_rfl))
  t3 := Tryz.underlying3
  a3 := Tryz.isAgg3
  z3 := Tryz.sizeOf3
  v3 := Tryz.zeroValue3
  t4 := Tryz.underlying4
  a4 := Tryz.isAgg4
  z4 := Tryz.sizeOf4
  v4 := Tryz.zeroValue4
  t9 := Tryz.underlying9
  a9 := Tryz.isAgg9
  z9 := Tryz.sizeOf9
  v9 := Tryz.zeroValue9 }
open Go.RowKit Go.Lib in
theorem Tryz.strings_TrimPrefix (s p : ByteArray) (w : World) :
    Calls Tryz.prog 149 #[.string s, .string p] w fun e w' => e = .returned (.string ⟨(Lib.trimPrefix s.data.toList p.data.toList).toArray⟩) ∧ w' = w := Any.strings_TrimPrefix Tryz.lays101 s p w
def Tryz.lays105_ren : Go.Shelf.Ren := ⟨fun | 105 => 214 | 212 => 257 | 99 => 104 | 165 => 258 | 166 => 213 | 170 => 215 | 169 => 216 | 263 => 279 | 264 => 280 | 206 => 156 | 240 => 256 | 241 => 281 | 276 => 278 | 277 => 293 | n => n, fun | 9 => 9 | 3 => 3 | 4 => 4 | 20 => 20 | 0 => 0 | 46 => 109 | 109 => 256 | 5 => 5 | 72 => 221 | 76 => 147 | 51 => 276 | 146 => 277 | 53 => 225 | 148 => 279 | 70 => 219 | 37 => 155 | 75 => 146 | 127 => 259 | 164 => 274 | 80 => 228 | n => n, fun | n => n⟩
theorem Tryz.lays105 : Go.Proofs.Lays.n105 Tryz.prog Tryz.lays105_ren := {
  mixed := by kernel_rfl
  f99 := Tryz.func104.trans (congrArg some (by kernel_rfl))
  f105 := Tryz.func214.trans (congrArg some (by kernel_rfl))
  f165 := Tryz.func258.trans (congrArg some (by kernel_rfl))
  f166 := Tryz.func213.trans (congrArg some (by kernel_rfl))
  f169 := Tryz.func216.trans (congrArg some (by kernel_rfl))
  f170 := Tryz.func215.trans (congrArg some (by kernel_rfl))
  f206 := Tryz.func156.trans (congrArg some (by kernel_rfl))
  f212 := Tryz.func257.trans (congrArg some (by kernel_rfl))
  f240 := Tryz.func256.trans (congrArg some (by kernel_rfl))
  f241 := Tryz.func281.trans (congrArg some (by kernel_rfl))
  f263 := Tryz.func279.trans (congrArg some (by kernel_rfl))
  f264 := Tryz.func280.trans (congrArg some (by kernel_rfl))
  f276 := Tryz.func278.trans (congrArg some (by kernel_rfl))
  f277 := Tryz.func293.trans (congrArg some (by kernel_rfl))
  t0 := Tryz.underlying0
  a0 := Tryz.isAgg0
  z0 := Tryz.sizeOf0
  v0 := Tryz.zeroValue0
  t3 := Tryz.underlying3
  a3 := Tryz.isAgg3
  z3 := Tryz.sizeOf3
  v3 := Tryz.zeroValue3
  t4 := Tryz.underlying4
  a4 := Tryz.isAgg4
  z4 := Tryz.sizeOf4
  v4 := Tryz.zeroValue4
  t5 := Tryz.underlying5
  a5 := Tryz.isAgg5
  z5 := Tryz.sizeOf5
  v5 := Tryz.zeroValue5
  t9 := Tryz.underlying9
  a9 := Tryz.isAgg9
  z9 := Tryz.sizeOf9
  v9 := Tryz.zeroValue9
  t20 := Tryz.underlying20
  a20 := Tryz.isAgg20
  z20 := Tryz.sizeOf20
  v20 := Tryz.zeroValue20
  t37 := Tryz.underlying155
  a37 := Tryz.isAgg155
  z37 := Tryz.sizeOf155
  v37 := Tryz.zeroValue155
  t46 := Tryz.underlying109
  a46 := Tryz.isAgg109
  z46 := Tryz.sizeOf109
  v46 := Tryz.zeroValue109
  t51 := Tryz.underlying276
  a51 := Tryz.isAgg276
  z51 := Tryz.sizeOf276
  v51 := Tryz.zeroValue276
  t53 := Tryz.underlying225
  a53 := Tryz.isAgg225
  z53 := Tryz.sizeOf225
  v53 := Tryz.zeroValue225
  t70 := Tryz.underlying219
  a70 := Tryz.isAgg219
  z70 := Tryz.sizeOf219
  v70 := Tryz.zeroValue219
  t72 := Tryz.underlying221
  a72 := Tryz.isAgg221
  z72 := Tryz.sizeOf221
  v72 := Tryz.zeroValue221
  t75 := Tryz.underlying146
  a75 := Tryz.isAgg146
  z75 := Tryz.sizeOf146
  v75 := Tryz.zeroValue146
  t76 := Tryz.underlying147
  a76 := Tryz.isAgg147
  z76 := Tryz.sizeOf147
  v76 := Tryz.zeroValue147
  t109 := Tryz.underlying256
  a109 := Tryz.isAgg256
  z109 := Tryz.sizeOf256
  v109 := Tryz.zeroValue256
  t127 := Tryz.underlying259
  a127 := Tryz.isAgg259
  z127 := Tryz.sizeOf259
  v127 := Tryz.zeroValue259
  t146 := Tryz.underlying277
  a146 := Tryz.isAgg277
  z146 := Tryz.sizeOf277
  v146 := Tryz.zeroValue277
  t148 := Tryz.underlying279
  a148 := Tryz.isAgg279
  z148 := Tryz.sizeOf279
  v148 := Tryz.zeroValue279
  t164 := Tryz.underlying274
  a164 := Tryz.isAgg274
  z164 := Tryz.sizeOf274
  v164 := Tryz.zeroValue274 }
theorem Tryz.Builder_Extra_105 : Builder.Extra Tryz.prog Tryz.lays105_ren := {
  sizeBuilder := by kernel_rfl
  liesBuilder := by kernel_rfl
  t5 := Tryz.underlying5
  a5 := Tryz.isAgg5
  z5 := Tryz.sizeOf5
  v5 := Tryz.zeroValue5
  infoByte := by kernel_rfl
  cellsByte := by kernel_rfl
  sizeByte := by kernel_rfl
  neB5 := by decide }
open Go.RowKit Go.Lib in
theorem Tryz.strings_Repeat (s : ByteArray) (c : Nat) (w : World) (hc : c ≤ 9223372036854775807) (hlen : s.size * c ≤ 140737488355328) :
    Calls Tryz.prog 214 #[.string s, .int .i64 c] w fun e w' => e = .returned (.string ⟨(Lib.repeatL s.data.toList c).toArray⟩) ∧ Below w.heap.size w w' := Any.strings_Repeat Tryz.lays105 Tryz.Builder_Extra_105 s c w hc hlen
end Go.Proofs
