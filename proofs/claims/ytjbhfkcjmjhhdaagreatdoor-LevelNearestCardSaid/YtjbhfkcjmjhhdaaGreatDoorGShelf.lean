/- Lemmas and contracts of functions, joined for the claim: Shelf. -/
import Derived.Shelf.Strings.Builder1
import Derived.Shelf.Strings.Builder2
import Derived.Shelf.Strings.Trim
import Derived.Shelf.Small.Utf8
import Derived.Shelf.Small.Strs
import Derived.Shelf.Small.Wraps
import Derived.Shelf.Strings.BuilderF
import Derived.Shelf.Strings.BuilderK
import Derived.Shelf.Strconv.Atoi
import Derived.Shelf.Strconv.Itoa0
import Derived.Shelf.Strconv.Itoa1
import Derived.Shelf.LaysM
import Derived.Shelf.Strconv.Itoa2
import Derived.Shelf.Strconv.Itoa3
import Derived.Shelf.Strconv.AtoiErrFast
import Derived.Shelf.Strconv.ParseIntEmpty
import Derived.Shelf.Strconv.AtoiFail
import Derived.Shelf.Strconv.Clone
import Derived.Shelf.Strconv.SyntaxError
import Derived.Shelf.LaysC
import Derived.Shelf.Strconv.ToError
import Derived.Shelf.Strconv.Lower
import Derived.Shelf.Strconv.ParseUint10
import Derived.Shelf.Strconv.ParseUint10Empty
import Derived.Shelf.Strconv.ParseUint10Any
import Derived.Shelf.Strconv.ParseInt10
import Derived.Shelf.Strconv.AtoiLong
import Derived.Shelf.Strconv.AtoiInnerAll
import Derived.Shelf.Strconv.RangeError
import Derived.Shelf.Strconv.ToErrorRange
import Derived.Shelf.Strconv.AtoiAll
import Derived.Shelf.Strconv.ErrVarAll
import Derived.Ground.MpProg
import Derived.Shelf.Pu.ParseUintPublic10
import Derived.Shelf.Strings.Search1
import Derived.Shelf.Strings.Search2
import Derived.Shelf.Strings.Cut
import Derived.Shelf.Strings.Shaped
import Derived.Shelf.GgClosure.StringsIndexFunc
import Derived.Ground.GgwProg
import Derived.Shelf.GgClosure.StringsIndexFuncTop
import Derived.Shelf.Strings.Prefix
import Derived.Shelf.Unicode.Decode
import Derived.Shelf.Strings.Runes
import Derived.Shelf.Strings.AsciiSet
import Derived.Shelf.Bits.Mul64
import Derived.Shelf.Strings.Repeat
import Derived.Shelf.Unicode.DecodeSlow
import Derived.Shelf.Unicode.DecodeAny
import Derived.Shelf.Unicode.DecodeLast
import Derived.Test.YtjbhfkcjmjhhdaaGreatDoorProg
namespace Go.Proofs
open Go.Shelf
def Tryz.lays170_ren : Go.Shelf.Ren := ⟨fun | 170 => 108 | n => n, fun | 70 => 115 | 3 => 3 | 0 => 0 | 72 => 117 | 37 => 107 | 5 => 5 | n => n, fun | n => n⟩
theorem Tryz.lays170 : Go.Proofs.Lays.n170 Tryz.prog Tryz.lays170_ren := {
  mixed := by kernel_rfl
  f170 := Tryz.func108.trans (congrArg some (by kernel_rfl))
  t0 := Tryz.underlying0
  a0 := Tryz.isAgg0
  z0 := Tryz.sizeOf0
  v0 := Tryz.zeroValue0
  t3 := Tryz.underlying3
  a3 := Tryz.isAgg3
  z3 := Tryz.sizeOf3
  v3 := Tryz.zeroValue3
  t37 := Tryz.underlying107
  a37 := Tryz.isAgg107
  z37 := Tryz.sizeOf107
  v37 := Tryz.zeroValue107
  t70 := Tryz.underlying115
  a70 := Tryz.isAgg115
  z70 := Tryz.sizeOf115
  v70 := Tryz.zeroValue115
  t72 := Tryz.underlying117
  a72 := Tryz.isAgg117
  z72 := Tryz.sizeOf117
  v72 := Tryz.zeroValue117 }
def Tryz.lays169_ren : Go.Shelf.Ren := ⟨fun | 169 => 109 | n => n, fun | 70 => 115 | 9 => 9 | 0 => 0 | 72 => 117 | 37 => 107 | 127 => 164 | 3 => 3 | 5 => 5 | n => n, fun | n => n⟩
theorem Tryz.lays169 : Go.Proofs.Lays.n169 Tryz.prog Tryz.lays169_ren := {
  mixed := by kernel_rfl
  f169 := Tryz.func109.trans (congrArg some (by kernel_rfl))
  t0 := Tryz.underlying0
  a0 := Tryz.isAgg0
  z0 := Tryz.sizeOf0
  v0 := Tryz.zeroValue0
  t3 := Tryz.underlying3
  a3 := Tryz.isAgg3
  z3 := Tryz.sizeOf3
  v3 := Tryz.zeroValue3
  t9 := Tryz.underlying9
  a9 := Tryz.isAgg9
  z9 := Tryz.sizeOf9
  v9 := Tryz.zeroValue9
  t37 := Tryz.underlying107
  a37 := Tryz.isAgg107
  z37 := Tryz.sizeOf107
  v37 := Tryz.zeroValue107
  t70 := Tryz.underlying115
  a70 := Tryz.isAgg115
  z70 := Tryz.sizeOf115
  v70 := Tryz.zeroValue115
  t72 := Tryz.underlying117
  a72 := Tryz.isAgg117
  z72 := Tryz.sizeOf117
  v72 := Tryz.zeroValue117
  t127 := Tryz.underlying164
  a127 := Tryz.isAgg164
  z127 := Tryz.sizeOf164
  v127 := Tryz.zeroValue164 }
theorem Tryz.Builder_Extra_169 : Builder.Extra Tryz.prog Tryz.lays169_ren := {
  sizeBuilder := by kernel_rfl
  liesBuilder := by kernel_rfl
  t5 := Tryz.underlying5
  a5 := Tryz.isAgg5
  z5 := Tryz.sizeOf5
  v5 := Tryz.zeroValue5
  infoByte := by kernel_rfl
  cellsByte := by kernel_rfl
  sizeByte := by kernel_rfl
  neB5 := by decide }
def Tryz.lays160_ren : Go.Shelf.Ren := ⟨fun | 160 => 111 | 232 => 157 | 231 => 156 | 227 => 158 | 234 => 160 | 233 => 159 | 236 => 162 | 235 => 161 | 228 => 193 | 271 => 196 | 151 => 195 | 197 => 194 | 120 => 215 | 152 => 214 | 260 => 213 | 137 => 223 | 119 => 224 | 224 => 141 | 225 => 140 | 217 => 139 | 266 => 174 | n => n, fun | 9 => 9 | 4 => 4 | 3 => 3 | 5 => 5 | 117 => 169 | 116 => 168 | 0 => 0 | 124 => 172 | 21 => 21 | 105 => 199 | 46 => 69 | 119 => 222 | 139 => 225 | 138 => 224 | n => n, fun | 3 => 4 | 4 => 5 | n => n⟩
theorem Tryz.lays160 : Go.Proofs.Lays.n160 Tryz.prog Tryz.lays160_ren := {
  mixed := by kernel_rfl
  f119 := Tryz.func224.trans (congrArg some (by kernel_rfl))
  f120 := Tryz.func215.trans (congrArg some (by kernel_rfl))
  f137 := Tryz.func223.trans (congrArg some (by kernel_rfl))
  f151 := Tryz.func195.trans (congrArg some (by kernel_rfl))
  f152 := Tryz.func214.trans (congrArg some (by kernel_rfl))
  f160 := Tryz.func111.trans (congrArg some (by kernel_rfl))
  f197 := Tryz.func194.trans (congrArg some (by kernel_rfl))
  f217 := Tryz.func139.trans (congrArg some (by kernel_rfl))
  f224 := Tryz.func141.trans (congrArg some (by kernel_rfl))
  f225 := Tryz.func140.trans (congrArg some (by kernel_rfl))
  f227 := Tryz.func158.trans (congrArg some (by kernel_rfl))
  f228 := Tryz.func193.trans (congrArg some (by kernel_rfl))
  f231 := Tryz.func156.trans (congrArg some (by kernel_rfl))
  f232 := Tryz.func157.trans (congrArg some (by kernel_rfl))
  f233 := Tryz.func159.trans (congrArg some (by kernel_rfl))
  f234 := Tryz.func160.trans (congrArg some (by kernel_rfl))
  f235 := Tryz.func161.trans (congrArg some (by kernel_rfl))
  f236 := Tryz.func162.trans (congrArg some (by kernel_rfl))
  f260 := Tryz.func213.trans (congrArg some (by kernel_rfl))
  f266 := Tryz.func174.trans (congrArg some (by kernel_rfl))
  f271 := Tryz.func196.trans (congrArg some (by kernel_rfl))
  t0 := Tryz.underlying0
  a0 := Tryz.isAgg0
  z0 := Tryz.sizeOf0
  v0 := Tryz.zeroValue0
  t3 := Tryz.underlying3
  a3 := Tryz.isAgg3
  z3 := Tryz.sizeOf3
  v3 := Tryz.zeroValue3
  t4 := Tryz.underlying4
  a4 := Tryz.isAgg4
  z4 := Tryz.sizeOf4
  v4 := Tryz.zeroValue4
  t5 := Tryz.underlying5
  a5 := Tryz.isAgg5
  z5 := Tryz.sizeOf5
  v5 := Tryz.zeroValue5
  t9 := Tryz.underlying9
  a9 := Tryz.isAgg9
  z9 := Tryz.sizeOf9
  v9 := Tryz.zeroValue9
  t21 := Tryz.underlying21
  a21 := Tryz.isAgg21
  z21 := Tryz.sizeOf21
  v21 := Tryz.zeroValue21
  t46 := Tryz.underlying69
  a46 := Tryz.isAgg69
  z46 := Tryz.sizeOf69
  v46 := Tryz.zeroValue69
  t105 := Tryz.underlying199
  a105 := Tryz.isAgg199
  z105 := Tryz.sizeOf199
  v105 := Tryz.zeroValue199
  t116 := Tryz.underlying168
  a116 := Tryz.isAgg168
  z116 := Tryz.sizeOf168
  t117 := Tryz.underlying169
  a117 := Tryz.isAgg169
  z117 := Tryz.sizeOf169
  v117 := Tryz.zeroValue169
  t119 := Tryz.underlying222
  a119 := Tryz.isAgg222
  z119 := Tryz.sizeOf222
  t124 := Tryz.underlying172
  a124 := Tryz.isAgg172
  z124 := Tryz.sizeOf172
  v124 := Tryz.zeroValue172
  t138 := Tryz.underlying224
  a138 := Tryz.isAgg224
  z138 := Tryz.sizeOf224
  v138 := Tryz.zeroValue224
  t139 := Tryz.underlying225
  a139 := Tryz.isAgg225
  z139 := Tryz.sizeOf225
  v139 := Tryz.zeroValue225
  g3 := by kernel_rfl
  g4 := by kernel_rfl }
open Go.RowKit in
theorem Tryz.Builder_Len_f (B b : Nat) (bs : List Value) (w : World) (h : Lib.IsBuilderF 117 5 B b bs w) :
    Calls Tryz.prog 108 #[.pointer (some ⟨b, 0, none⟩)] w fun e w' => e = .returned (.int .i64 bs.length) ∧ w' = w := Any.Builder_Len_f Tryz.lays170 B b bs w h
open Go.RowKit in
theorem Tryz.Builder_String_any_k (B b : Nat) (l : List UInt8) (w : World) (h : Lib.IsBuilderF 117 5 B b (Lib.byteCells l) w) (hBw : B ≤ w.heap.size) :
    Calls Tryz.prog 109 #[.pointer (some ⟨b, 0, none⟩)] w fun e w' => e = .returned (.string ⟨l.toArray⟩) ∧ (Lib.IsBuilderF 117 5 B b (Lib.byteCells l) w' ∧ Below B w w' ∧ Lib.OthersKept 5 (some b) w w') := Any.Builder_String_any_k Tryz.lays169 Tryz.Builder_Extra_169 B b l w h hBw
def Tryz.lays283_ren : Go.Shelf.Ren := ⟨fun | 283 => 183 | n => n, fun | 3 => 3 | 9 => 9 | 4 => 4 | n => n, fun | n => n⟩
theorem Tryz.lays283 : Go.Proofs.Lays.n283 Tryz.prog Tryz.lays283_ren := {
  mixed := by kernel_rfl
  f283 := Tryz.func183.trans (congrArg some (by kernel_rfl))
  t3 := Tryz.underlying3
  a3 := Tryz.isAgg3
  z3 := Tryz.sizeOf3
  v3 := Tryz.zeroValue3
  t4 := Tryz.underlying4
  a4 := Tryz.isAgg4
  z4 := Tryz.sizeOf4
  v4 := Tryz.zeroValue4
  t9 := Tryz.underlying9
  a9 := Tryz.isAgg9
  z9 := Tryz.sizeOf9
  v9 := Tryz.zeroValue9 }
open Go.Lib in
theorem Tryz.internal_strconv_small (i : Nat) (h : i < 100) (w : World) :
    Calls Tryz.prog 183 #[.int .i64 i] w fun e w' => e = .returned (.string ⟨(Lib.decDigits i).toArray⟩) ∧ w' = w := Any.internal_strconv_small Tryz.lays283 i h w
def Tryz.laysM284_ren : Go.Shelf.Ren := ⟨fun | 284 => 184 | 129 => 208 | 317 => 207 | 318 => 209 | n => n, fun | 53 => 121 | 3 => 3 | 212 => 210 | 0 => 0 | 4 => 4 | 46 => 69 | 5 => 5 | 9 => 9 | n => n, fun | 17 => 1 | n => n⟩
theorem Tryz.laysM284 : Go.Proofs.LaysM.n284 Tryz.prog Tryz.laysM284_ren := {
  mixed := by kernel_rfl
  f129 := Tryz.func208.trans (congrArg some (by kernel_rfl))
  f284 := Tryz.func184.trans (congrArg some (by kernel_rfl))
  f317 := Tryz.func207.trans (congrArg some (by kernel_rfl))
  f318 := Tryz.func209.trans (congrArg some (by kernel_rfl))
  t0 := Tryz.underlying0
  a0 := Tryz.isAgg0
  z0 := Tryz.sizeOf0
  v0 := Tryz.zeroValue0
  t3 := Tryz.underlying3
  a3 := Tryz.isAgg3
  z3 := Tryz.sizeOf3
  v3 := Tryz.zeroValue3
  t4 := Tryz.underlying4
  a4 := Tryz.isAgg4
  z4 := Tryz.sizeOf4
  v4 := Tryz.zeroValue4
  t5 := Tryz.underlying5
  a5 := Tryz.isAgg5
  z5 := Tryz.sizeOf5
  v5 := Tryz.zeroValue5
  t9 := Tryz.underlying9
  a9 := Tryz.isAgg9
  z9 := Tryz.sizeOf9
  v9 := Tryz.zeroValue9
  t46 := Tryz.underlying69
  a46 := Tryz.isAgg69
  z46 := Tryz.sizeOf69
  v46 := Tryz.zeroValue69
  t53 := Tryz.underlying121
  a53 := Tryz.isAgg121
  z53 := Tryz.sizeOf121
  v53 := Tryz.zeroValue121
  t212 := Tryz.underlying210
  a212 := Tryz.isAgg210
  z212 := Tryz.sizeOf210
  v212 := Tryz.zeroValue210
  g17 := by kernel_rfl
  i0 := by kernel_rfl
  i3 := by kernel_rfl
  i4 := by kernel_rfl
  i5 := by kernel_rfl
  i9 := by kernel_rfl
  i46 := by kernel_rfl
  i53 := by kernel_rfl
  i212 := by kernel_rfl
  m17 := by kernel_rfl }
open Go.Lib in
theorem Tryz.internal_strconv_numDigits (u : Nat) (h1 : 1 ≤ u) (h2 : u < 18446744073709551616) (w : World) (htab : Lib.TabIs Tryz.prog w "internal/strconv.uint64pow10" .u64 Lib.pow10Tab) :
    Calls Tryz.prog 184 #[.int .u64 u] w fun e w' => e = .returned (.int .i64 (Lib.nDigits u)) ∧ w' = w := Any.internal_strconv_numDigits Tryz.laysM284 u h1 h2 w htab
def Tryz.lays285_ren : Go.Shelf.Ren := ⟨fun | 285 => 185 | n => n, fun | 37 => 107 | 53 => 121 | 3 => 3 | 4 => 4 | 51 => 181 | 9 => 9 | 5 => 5 | 0 => 0 | n => n, fun | n => n⟩
theorem Tryz.lays285 : Go.Proofs.Lays.n285 Tryz.prog Tryz.lays285_ren := {
  mixed := by kernel_rfl
  f285 := Tryz.func185.trans (congrArg some (by kernel_rfl))
  t0 := Tryz.underlying0
  a0 := Tryz.isAgg0
  z0 := Tryz.sizeOf0
  v0 := Tryz.zeroValue0
  t3 := Tryz.underlying3
  a3 := Tryz.isAgg3
  z3 := Tryz.sizeOf3
  v3 := Tryz.zeroValue3
  t4 := Tryz.underlying4
  a4 := Tryz.isAgg4
  z4 := Tryz.sizeOf4
  v4 := Tryz.zeroValue4
  t5 := Tryz.underlying5
  a5 := Tryz.isAgg5
  z5 := Tryz.sizeOf5
  v5 := Tryz.zeroValue5
  t9 := Tryz.underlying9
  a9 := Tryz.isAgg9
  z9 := Tryz.sizeOf9
  v9 := Tryz.zeroValue9
  t37 := Tryz.underlying107
  a37 := Tryz.isAgg107
  z37 := Tryz.sizeOf107
  v37 := Tryz.zeroValue107
  t51 := Tryz.underlying181
  a51 := Tryz.isAgg181
  z51 := Tryz.sizeOf181
  v51 := Tryz.zeroValue181
  t53 := Tryz.underlying121
  a53 := Tryz.isAgg121
  z53 := Tryz.sizeOf121
  v53 := Tryz.zeroValue121 }
open Go.RowKit Go.Sort Go.Lib in
theorem Tryz.internal_strconv_formatBase10 (blk off cap : Nat) (u : Nat) (d : Array UInt8) (w : World) (hH : Holds (fun (b : UInt8) => Value.int .u8 (b.toNat : Int)) w blk off d) (hu : u < 10 ^ d.size) (hu64 : u < 18446744073709551616) (hsz : d.size < 4611686018427387904) :
    Calls Tryz.prog 185 #[.slice (some ⟨blk, off, none⟩) d.size cap, .int .u64 u] w fun e w' =>
      e = .returned (.tuple #[]) ∧ ∃ (n v' : Nat) (dk : Array UInt8), w' = (putRow (fun (b : UInt8) => Value.int .u8 (b.toNat : Int)) w blk off dk).drewN n ∧ FmtInv d.size u 0 v' dk := Any.internal_strconv_formatBase10 Tryz.lays285 blk off cap u d w hH hu hu64 hsz
def Tryz.laysM171_ren : Go.Shelf.Ren := ⟨fun | 171 => 173 | 243 => 200 | 246 => 216 | 283 => 183 | 284 => 184 | 285 => 185 | 286 => 186 | 129 => 208 | 317 => 207 | 318 => 209 | 319 => 210 | 320 => 211 | 337 => 221 | 338 => 222 | n => n, fun | 3 => 3 | 9 => 9 | 2 => 2 | 4 => 4 | 171 => 188 | 0 => 0 | 53 => 121 | 37 => 107 | 5 => 5 | 173 => 191 | 212 => 210 | 51 => 181 | 20 => 20 | 213 => 211 | 46 => 69 | 232 => 229 | 233 => 230 | n => n, fun | 17 => 1 | 18 => 6 | 19 => 7 | n => n⟩
theorem Tryz.laysM171 : Go.Proofs.LaysM.n171 Tryz.prog Tryz.laysM171_ren := {
  mixed := by kernel_rfl
  f129 := Tryz.func208.trans (congrArg some (by kernel_rfl))
  f171 := Tryz.func173.trans (congrArg some (by kernel_rfl))
  f243 := Tryz.func200.trans (congrArg some (by kernel_rfl))
  f246 := Tryz.func216.trans (congrArg some (by kernel_rfl))
  f283 := Tryz.func183.trans (congrArg some (by kernel_rfl))
  f284 := Tryz.func184.trans (congrArg some (by kernel_rfl))
  f285 := Tryz.func185.trans (congrArg some (by kernel_rfl))
  f286 := Tryz.func186.trans (congrArg some (by kernel_rfl))
  f317 := Tryz.func207.trans (congrArg some (by kernel_rfl))
  f318 := Tryz.func209.trans (congrArg some (by kernel_rfl))
  f319 := Tryz.func210.trans (congrArg some (by kernel_rfl))
  f320 := Tryz.func211.trans (congrArg some (by kernel_rfl))
  f337 := Tryz.func221.trans (congrArg some (by kernel_rfl))
  f338 := Tryz.func222.trans (congrArg some (by kernel_rfl))
  t0 := Tryz.underlying0
  a0 := Tryz.isAgg0
  z0 := Tryz.sizeOf0
  v0 := Tryz.zeroValue0
  t2 := Tryz.underlying2
  a2 := Tryz.isAgg2
  z2 := Tryz.sizeOf2
  v2 := Tryz.zeroValue2
  t3 := Tryz.underlying3
  a3 := Tryz.isAgg3
  z3 := Tryz.sizeOf3
  v3 := Tryz.zeroValue3
  t4 := Tryz.underlying4
  a4 := Tryz.isAgg4
  z4 := Tryz.sizeOf4
  v4 := Tryz.zeroValue4
  t5 := Tryz.underlying5
  a5 := Tryz.isAgg5
  z5 := Tryz.sizeOf5
  v5 := Tryz.zeroValue5
  t9 := Tryz.underlying9
  a9 := Tryz.isAgg9
  z9 := Tryz.sizeOf9
  v9 := Tryz.zeroValue9
  t20 := Tryz.underlying20
  a20 := Tryz.isAgg20
  z20 := Tryz.sizeOf20
  v20 := Tryz.zeroValue20
  t37 := Tryz.underlying107
  a37 := Tryz.isAgg107
  z37 := Tryz.sizeOf107
  v37 := Tryz.zeroValue107
  t46 := Tryz.underlying69
  a46 := Tryz.isAgg69
  z46 := Tryz.sizeOf69
  v46 := Tryz.zeroValue69
  t51 := Tryz.underlying181
  a51 := Tryz.isAgg181
  z51 := Tryz.sizeOf181
  v51 := Tryz.zeroValue181
  t53 := Tryz.underlying121
  a53 := Tryz.isAgg121
  z53 := Tryz.sizeOf121
  v53 := Tryz.zeroValue121
  t171 := Tryz.underlying188
  a171 := Tryz.isAgg188
  z171 := Tryz.sizeOf188
  v171 := Tryz.zeroValue188
  t173 := Tryz.underlying191
  a173 := Tryz.isAgg191
  z173 := Tryz.sizeOf191
  v173 := Tryz.zeroValue191
  t212 := Tryz.underlying210
  a212 := Tryz.isAgg210
  z212 := Tryz.sizeOf210
  v212 := Tryz.zeroValue210
  t213 := Tryz.underlying211
  a213 := Tryz.isAgg211
  z213 := Tryz.sizeOf211
  t232 := Tryz.underlying229
  a232 := Tryz.isAgg229
  z232 := Tryz.sizeOf229
  v232 := Tryz.zeroValue229
  t233 := Tryz.underlying230
  a233 := Tryz.isAgg230
  z233 := Tryz.sizeOf230
  v233 := Tryz.zeroValue230
  g17 := by kernel_rfl
  g18 := by kernel_rfl
  g19 := by kernel_rfl
  i0 := by kernel_rfl
  i2 := by kernel_rfl
  i3 := by kernel_rfl
  i4 := by kernel_rfl
  i5 := by kernel_rfl
  i9 := by kernel_rfl
  i20 := by kernel_rfl
  i37 := by kernel_rfl
  i46 := by kernel_rfl
  i51 := by kernel_rfl
  i53 := by kernel_rfl
  i171 := by kernel_rfl
  i173 := by kernel_rfl
  i212 := by kernel_rfl
  i232 := by kernel_rfl
  i233 := by kernel_rfl
  m17 := by kernel_rfl
  m18 := by kernel_rfl
  m19 := by kernel_rfl }
open Go.RowKit Go.Sort Go.Lib in
theorem Tryz.strconv_Itoa (n : Int) (h0 : -9223372036854775808 ≤ n) (h1 : n ≤ 9223372036854775807) (w : World) (htab : Lib.TabIs Tryz.prog w "internal/strconv.uint64pow10" .u64 Lib.pow10Tab) :
    Calls Tryz.prog 173 #[.int .i64 n] w fun e w' => e = .returned (.string ⟨(Lib.itoa n).toArray⟩) ∧ ∃ k os, w' = grow (w.drewN k) os := Any.strconv_Itoa Tryz.laysM171 n h0 h1 w htab
def Tryz.laysC172_ren : Go.Shelf.Ren := ⟨fun | 172 => 145 | 244 => 179 | 245 => 180 | 247 => 201 | 279 => 202 | 280 => 203 | 281 => 204 | 282 => 205 | 287 => 206 | 316 => 217 | 171 => 173 | 205 => 218 | 321 => 219 | 322 => 220 | 243 => 200 | 246 => 216 | 283 => 183 | 284 => 184 | 285 => 185 | 286 => 186 | 129 => 208 | 317 => 207 | 318 => 209 | 319 => 210 | 320 => 211 | 337 => 221 | 338 => 222 | n => n, fun | 9 => 9 | 3 => 3 | 75 => 124 | 76 => 125 | 4 => 4 | 5 => 5 | 167 => 203 | 37 => 107 | 0 => 0 | 85 => 204 | 2 => 2 | 168 => 206 | 53 => 121 | 175 => 186 | 46 => 69 | 210 => 218 | 127 => 164 | 145 => 228 | 143 => 226 | 21 => 21 | 171 => 188 | 173 => 191 | 212 => 210 | 51 => 181 | 20 => 20 | 213 => 211 | 232 => 229 | 233 => 230 | 80 => 129 | n => n, fun | 15 => 2 | 16 => 3 | 17 => 1 | 18 => 6 | 19 => 7 | n => n⟩
theorem Tryz.laysC172 : Go.Proofs.LaysC.n172 Tryz.prog Tryz.laysC172_ren := {
  mixed := by kernel_rfl
  f129 := Tryz.func208.trans (congrArg some (by kernel_rfl))
  f171 := Tryz.func173.trans (congrArg some (by kernel_rfl))
  f172 := Tryz.func145.trans (congrArg some (by kernel_rfl))
  f205 := Tryz.func218.trans (congrArg some (by kernel_rfl))
  f243 := Tryz.func200.trans (congrArg some (by kernel_rfl))
  f244 := Tryz.func179.trans (congrArg some (by kernel_rfl))
  f245 := Tryz.func180.trans (congrArg some (by kernel_rfl))
  f246 := Tryz.func216.trans (congrArg some (by kernel_rfl))
  f247 := Tryz.func201.trans (congrArg some (by kernel_rfl))
  f279 := Tryz.func202.trans (congrArg some (by kernel_rfl))
  f280 := Tryz.func203.trans (congrArg some (by kernel_rfl))
  f281 := Tryz.func204.trans (congrArg some (by kernel_rfl))
  f282 := Tryz.func205.trans (congrArg some (by kernel_rfl))
  f283 := Tryz.func183.trans (congrArg some (by kernel_rfl))
  f284 := Tryz.func184.trans (congrArg some (by kernel_rfl))
  f285 := Tryz.func185.trans (congrArg some (by kernel_rfl))
  f286 := Tryz.func186.trans (congrArg some (by kernel_rfl))
  f287 := Tryz.func206.trans (congrArg some (by kernel_rfl))
  f316 := Tryz.func217.trans (congrArg some (by kernel_rfl))
  f317 := Tryz.func207.trans (congrArg some (by kernel_rfl))
  f318 := Tryz.func209.trans (congrArg some (by kernel_rfl))
  f319 := Tryz.func210.trans (congrArg some (by kernel_rfl))
  f320 := Tryz.func211.trans (congrArg some (by kernel_rfl))
  f321 := Tryz.func219.trans (congrArg some (by kernel_rfl))
  f322 := Tryz.func220.trans (congrArg some (by kernel_rfl))
  f337 := Tryz.func221.trans (congrArg some (by kernel_rfl))
  f338 := Tryz.func222.trans (congrArg some (by kernel_rfl))
  t0 := Tryz.underlying0
  a0 := Tryz.isAgg0
  z0 := Tryz.sizeOf0
  v0 := Tryz.zeroValue0
  t2 := Tryz.underlying2
  a2 := Tryz.isAgg2
  z2 := Tryz.sizeOf2
  v2 := Tryz.zeroValue2
  t3 := Tryz.underlying3
  a3 := Tryz.isAgg3
  z3 := Tryz.sizeOf3
  v3 := Tryz.zeroValue3
  t4 := Tryz.underlying4
  a4 := Tryz.isAgg4
  z4 := Tryz.sizeOf4
  v4 := Tryz.zeroValue4
  t5 := Tryz.underlying5
  a5 := Tryz.isAgg5
  z5 := Tryz.sizeOf5
  v5 := Tryz.zeroValue5
  t9 := Tryz.underlying9
  a9 := Tryz.isAgg9
  z9 := Tryz.sizeOf9
  v9 := Tryz.zeroValue9
  t20 := Tryz.underlying20
  a20 := Tryz.isAgg20
  z20 := Tryz.sizeOf20
  v20 := Tryz.zeroValue20
  t21 := Tryz.underlying21
  a21 := Tryz.isAgg21
  z21 := Tryz.sizeOf21
  v21 := Tryz.zeroValue21
  t37 := Tryz.underlying107
  a37 := Tryz.isAgg107
  z37 := Tryz.sizeOf107
  v37 := Tryz.zeroValue107
  t46 := Tryz.underlying69
  a46 := Tryz.isAgg69
  z46 := Tryz.sizeOf69
  v46 := Tryz.zeroValue69
  t51 := Tryz.underlying181
  a51 := Tryz.isAgg181
  z51 := Tryz.sizeOf181
  v51 := Tryz.zeroValue181
  t53 := Tryz.underlying121
  a53 := Tryz.isAgg121
  z53 := Tryz.sizeOf121
  v53 := Tryz.zeroValue121
  t75 := Tryz.underlying124
  a75 := Tryz.isAgg124
  z75 := Tryz.sizeOf124
  v75 := Tryz.zeroValue124
  t76 := Tryz.underlying125
  a76 := Tryz.isAgg125
  z76 := Tryz.sizeOf125
  v76 := Tryz.zeroValue125
  t85 := Tryz.underlying204
  a85 := Tryz.isAgg204
  z85 := Tryz.sizeOf204
  v85 := Tryz.zeroValue204
  t127 := Tryz.underlying164
  a127 := Tryz.isAgg164
  z127 := Tryz.sizeOf164
  v127 := Tryz.zeroValue164
  t143 := Tryz.underlying226
  a143 := Tryz.isAgg226
  z143 := Tryz.sizeOf226
  v143 := Tryz.zeroValue226
  t145 := Tryz.underlying228
  a145 := Tryz.isAgg228
  z145 := Tryz.sizeOf228
  v145 := Tryz.zeroValue228
  t167 := Tryz.underlying203
  a167 := Tryz.isAgg203
  z167 := Tryz.sizeOf203
  v167 := Tryz.zeroValue203
  t168 := Tryz.underlying206
  a168 := Tryz.isAgg206
  z168 := Tryz.sizeOf206
  v168 := Tryz.zeroValue206
  t171 := Tryz.underlying188
  a171 := Tryz.isAgg188
  z171 := Tryz.sizeOf188
  v171 := Tryz.zeroValue188
  t173 := Tryz.underlying191
  a173 := Tryz.isAgg191
  z173 := Tryz.sizeOf191
  v173 := Tryz.zeroValue191
  t175 := Tryz.underlying186
  a175 := Tryz.isAgg186
  z175 := Tryz.sizeOf186
  v175 := Tryz.zeroValue186
  t210 := Tryz.underlying218
  a210 := Tryz.isAgg218
  z210 := Tryz.sizeOf218
  v210 := Tryz.zeroValue218
  t212 := Tryz.underlying210
  a212 := Tryz.isAgg210
  z212 := Tryz.sizeOf210
  v212 := Tryz.zeroValue210
  t213 := Tryz.underlying211
  a213 := Tryz.isAgg211
  z213 := Tryz.sizeOf211
  t232 := Tryz.underlying229
  a232 := Tryz.isAgg229
  z232 := Tryz.sizeOf229
  v232 := Tryz.zeroValue229
  t233 := Tryz.underlying230
  a233 := Tryz.isAgg230
  z233 := Tryz.sizeOf230
  v233 := Tryz.zeroValue230
  g15 := by kernel_rfl
  g16 := by kernel_rfl
  g17 := by kernel_rfl
  g18 := by kernel_rfl
  g19 := by kernel_rfl
  t80 := Tryz.underlying129
  a80 := Tryz.isAgg129
  z80 := Tryz.sizeOf129
  v80 := Tryz.zeroValue129
  i0 := by kernel_rfl
  i2 := by kernel_rfl
  i3 := by kernel_rfl
  i4 := by kernel_rfl
  i5 := by kernel_rfl
  i9 := by kernel_rfl
  i20 := by kernel_rfl
  i21 := by kernel_rfl
  i37 := by kernel_rfl
  i46 := by kernel_rfl
  i51 := by kernel_rfl
  i53 := by kernel_rfl
  i75 := by kernel_rfl
  i76 := by kernel_rfl
  i80 := by kernel_rfl
  i85 := by kernel_rfl
  i127 := by kernel_rfl
  i143 := by kernel_rfl
  i145 := by kernel_rfl
  i167 := by kernel_rfl
  i168 := by kernel_rfl
  i171 := by kernel_rfl
  i173 := by kernel_rfl
  i175 := by kernel_rfl
  i210 := by kernel_rfl
  i212 := by kernel_rfl
  i232 := by kernel_rfl
  i233 := by kernel_rfl
  m15 := by kernel_rfl
  m16 := by kernel_rfl
  m17 := by kernel_rfl
  m18 := by kernel_rfl
  m19 := by kernel_rfl
  c0 := by kernel_rfl
  c2 := by kernel_rfl
  c3 := by kernel_rfl
  c4 := by kernel_rfl
  c5 := by kernel_rfl
  c9 := by kernel_rfl
  c20 := by kernel_rfl
  c21 := by kernel_rfl
  c37 := by kernel_rfl
  c46 := by kernel_rfl
  c51 := by kernel_rfl
  c53 := by kernel_rfl
  c75 := by kernel_rfl
  c76 := by kernel_rfl
  c80 := by kernel_rfl
  c85 := by kernel_rfl
  c127 := by kernel_rfl
  c143 := by kernel_rfl
  c145 := by kernel_rfl
  c167 := by kernel_rfl
  c168 := by kernel_rfl
  c171 := by kernel_rfl
  c173 := by kernel_rfl
  c175 := by kernel_rfl
  c210 := by kernel_rfl
  c212 := by kernel_rfl
  c213 := by kernel_rfl
  c232 := by kernel_rfl
  c233 := by kernel_rfl }
open Go.RowKit in
theorem Tryz.strconv_Atoi_ok (s : ByteArray) (hmax : s.size ≤ 9223372036854775806) (v : Int) (h : Lib.atoiAll s.data.toList = .ok v) (w : World) :
    Calls Tryz.prog 145 #[.string s] w fun e w' => e = .returned (.tuple #[.int .i64 v, .nilIface]) ∧ (w' = w ∨ ∃ t, w' = Lib.bytesWorld w 5 t) := Any.strconv_Atoi_ok Tryz.laysC172 s hmax v h w
open Go.RowKit in
theorem Tryz.strconv_Atoi_range_var (s : ByteArray) (hlim : s.size ≤ 281474976710656) (h : Lib.atoiAll s.data.toList = .range) (tp : TypeId) (p : Value) (w : World) (hvar : w.var? Tryz.prog "strconv.ErrRange" = some #[.iface tp p]) :
    Calls Tryz.prog 145 #[.string s] w fun e w' => ∃ N, e = .returned (.tuple #[.int .i64 (Lib.atoiSat s.data.toList), .iface 206 (.pointer (some ⟨N, 0, none⟩))]) ∧ w.heap.size ≤ N ∧ w'.heap[N]? = some (.cells #[.string ⟨#[65, 116, 111, 105]⟩, .string s, .iface tp p] 218 (0, 0)) ∧ Below w.heap.size w w' := Any.strconv_Atoi_range_var Tryz.laysC172 s hlim h tp p w hvar
def Tryz.laysPu14_ren : Go.Shelf.Ren := ⟨fun | 14 => 182 | 16 => 206 | 17 => 180 | 19 => 219 | 20 => 220 | 21 => 202 | 22 => 203 | 23 => 204 | 24 => 205 | 25 => 217 | 27 => 173 | 26 => 218 | 28 => 200 | 29 => 216 | 30 => 183 | 31 => 184 | 32 => 185 | 33 => 186 | 35 => 208 | 34 => 207 | 36 => 209 | 37 => 210 | 38 => 211 | 39 => 221 | 40 => 222 | n => n, fun | 9 => 9 | 3 => 3 | 22 => 121 | 24 => 124 | 25 => 186 | 4 => 4 | 34 => 203 | 5 => 5 | 36 => 69 | 37 => 107 | 0 => 0 | 39 => 206 | 21 => 21 | 44 => 218 | 47 => 164 | 50 => 228 | 48 => 226 | 2 => 2 | 52 => 188 | 55 => 191 | 59 => 210 | 60 => 181 | 20 => 20 | 61 => 211 | 65 => 229 | 66 => 230 | 67 => 129 | n => n, fun | 0 => 2 | 1 => 3 | 2 => 1 | 3 => 6 | 4 => 7 | n => n⟩
theorem Tryz.laysPu14 : Go.Proofs.LaysPu.n14 Tryz.prog Tryz.laysPu14_ren := {
  mixed := by kernel_rfl
  f14 := Tryz.func182.trans (congrArg some (by kernel_rfl))
  f16 := Tryz.func206.trans (congrArg some (by kernel_rfl))
  f17 := Tryz.func180.trans (congrArg some (by kernel_rfl))
  f19 := Tryz.func219.trans (congrArg some (by kernel_rfl))
  f20 := Tryz.func220.trans (congrArg some (by kernel_rfl))
  f21 := Tryz.func202.trans (congrArg some (by kernel_rfl))
  f22 := Tryz.func203.trans (congrArg some (by kernel_rfl))
  f23 := Tryz.func204.trans (congrArg some (by kernel_rfl))
  f24 := Tryz.func205.trans (congrArg some (by kernel_rfl))
  f25 := Tryz.func217.trans (congrArg some (by kernel_rfl))
  f26 := Tryz.func218.trans (congrArg some (by kernel_rfl))
  f27 := Tryz.func173.trans (congrArg some (by kernel_rfl))
  f28 := Tryz.func200.trans (congrArg some (by kernel_rfl))
  f29 := Tryz.func216.trans (congrArg some (by kernel_rfl))
  f30 := Tryz.func183.trans (congrArg some (by kernel_rfl))
  f31 := Tryz.func184.trans (congrArg some (by kernel_rfl))
  f32 := Tryz.func185.trans (congrArg some (by kernel_rfl))
  f33 := Tryz.func186.trans (congrArg some (by kernel_rfl))
  f34 := Tryz.func207.trans (congrArg some (by kernel_rfl))
  f35 := Tryz.func208.trans (congrArg some (by kernel_rfl))
  f36 := Tryz.func209.trans (congrArg some (by kernel_rfl))
  f37 := Tryz.func210.trans (congrArg some (by kernel_rfl))
  f38 := Tryz.func211.trans (congrArg some (by kernel_rfl))
  f39 := Tryz.func221.trans (congrArg some (by kernel_rfl))
  f40 := Tryz.func222.trans (congrArg some (by kernel_rfl))
  t0 := Tryz.underlying0
  a0 := Tryz.isAgg0
  z0 := Tryz.sizeOf0
  v0 := Tryz.zeroValue0
  i0 := by kernel_rfl
  t2 := Tryz.underlying2
  a2 := Tryz.isAgg2
  z2 := Tryz.sizeOf2
  v2 := Tryz.zeroValue2
  i2 := by kernel_rfl
  t3 := Tryz.underlying3
  a3 := Tryz.isAgg3
  z3 := Tryz.sizeOf3
  v3 := Tryz.zeroValue3
  i3 := by kernel_rfl
  t4 := Tryz.underlying4
  a4 := Tryz.isAgg4
  z4 := Tryz.sizeOf4
  v4 := Tryz.zeroValue4
  i4 := by kernel_rfl
  t5 := Tryz.underlying5
  a5 := Tryz.isAgg5
  z5 := Tryz.sizeOf5
  v5 := Tryz.zeroValue5
  i5 := by kernel_rfl
  t9 := Tryz.underlying9
  a9 := Tryz.isAgg9
  z9 := Tryz.sizeOf9
  v9 := Tryz.zeroValue9
  i9 := by kernel_rfl
  t20 := Tryz.underlying20
  a20 := Tryz.isAgg20
  z20 := Tryz.sizeOf20
  v20 := Tryz.zeroValue20
  i20 := by kernel_rfl
  t21 := Tryz.underlying21
  a21 := Tryz.isAgg21
  z21 := Tryz.sizeOf21
  v21 := Tryz.zeroValue21
  i21 := by kernel_rfl
  t22 := Tryz.underlying121
  a22 := Tryz.isAgg121
  z22 := Tryz.sizeOf121
  v22 := Tryz.zeroValue121
  i22 := by kernel_rfl
  t24 := Tryz.underlying124
  a24 := Tryz.isAgg124
  z24 := Tryz.sizeOf124
  v24 := Tryz.zeroValue124
  i24 := by kernel_rfl
  t25 := Tryz.underlying186
  a25 := Tryz.isAgg186
  z25 := Tryz.sizeOf186
  v25 := Tryz.zeroValue186
  i25 := by kernel_rfl
  t34 := Tryz.underlying203
  a34 := Tryz.isAgg203
  z34 := Tryz.sizeOf203
  v34 := Tryz.zeroValue203
  i34 := by kernel_rfl
  c34 := by kernel_rfl
  t36 := Tryz.underlying69
  a36 := Tryz.isAgg69
  z36 := Tryz.sizeOf69
  v36 := Tryz.zeroValue69
  i36 := by kernel_rfl
  t37 := Tryz.underlying107
  a37 := Tryz.isAgg107
  z37 := Tryz.sizeOf107
  v37 := Tryz.zeroValue107
  i37 := by kernel_rfl
  t39 := Tryz.underlying206
  a39 := Tryz.isAgg206
  z39 := Tryz.sizeOf206
  v39 := Tryz.zeroValue206
  i39 := by kernel_rfl
  t44 := Tryz.underlying218
  a44 := Tryz.isAgg218
  z44 := Tryz.sizeOf218
  v44 := Tryz.zeroValue218
  i44 := by kernel_rfl
  t47 := Tryz.underlying164
  a47 := Tryz.isAgg164
  z47 := Tryz.sizeOf164
  v47 := Tryz.zeroValue164
  i47 := by kernel_rfl
  t48 := Tryz.underlying226
  a48 := Tryz.isAgg226
  z48 := Tryz.sizeOf226
  v48 := Tryz.zeroValue226
  i48 := by kernel_rfl
  t50 := Tryz.underlying228
  a50 := Tryz.isAgg228
  z50 := Tryz.sizeOf228
  v50 := Tryz.zeroValue228
  i50 := by kernel_rfl
  t52 := Tryz.underlying188
  a52 := Tryz.isAgg188
  z52 := Tryz.sizeOf188
  v52 := Tryz.zeroValue188
  i52 := by kernel_rfl
  t55 := Tryz.underlying191
  a55 := Tryz.isAgg191
  z55 := Tryz.sizeOf191
  v55 := Tryz.zeroValue191
  i55 := by kernel_rfl
  t59 := Tryz.underlying210
  a59 := Tryz.isAgg210
  z59 := Tryz.sizeOf210
  v59 := Tryz.zeroValue210
  i59 := by kernel_rfl
  t60 := Tryz.underlying181
  a60 := Tryz.isAgg181
  z60 := Tryz.sizeOf181
  v60 := Tryz.zeroValue181
  i60 := by kernel_rfl
  t61 := Tryz.underlying211
  a61 := Tryz.isAgg211
  z61 := Tryz.sizeOf211
  t65 := Tryz.underlying229
  a65 := Tryz.isAgg229
  z65 := Tryz.sizeOf229
  v65 := Tryz.zeroValue229
  i65 := by kernel_rfl
  t66 := Tryz.underlying230
  a66 := Tryz.isAgg230
  z66 := Tryz.sizeOf230
  v66 := Tryz.zeroValue230
  i66 := by kernel_rfl
  t67 := Tryz.underlying129
  a67 := Tryz.isAgg129
  z67 := Tryz.sizeOf129
  v67 := Tryz.zeroValue129
  i67 := by kernel_rfl
  g0 := by kernel_rfl
  m0 := by kernel_rfl
  g1 := by kernel_rfl
  m1 := by kernel_rfl
  g2 := by kernel_rfl
  m2 := by kernel_rfl
  g3 := by kernel_rfl
  m3 := by kernel_rfl
  g4 := by kernel_rfl
  m4 := by kernel_rfl }
open Go.RowKit in
theorem Tryz.strconv_ParseUint_10_at64_ok (s : ByteArray) (hmax : s.size ≤ 9223372036854775806) (u : Nat) (h : Lib.parseUintB 64 s.data.toList = .ok u) (w : World) :
    Calls Tryz.prog 182 #[.string s, .int .i64 10, .int .i64 64] w fun e w' => e = .returned (.tuple #[.int .u64 u, .nilIface]) ∧ (w' = w ∨ w' = Lib.bytesWorld w 5 s) := Any.strconv_ParseUint_10_at64_ok Tryz.laysPu14 s hmax u h w
def Tryz.lays219_ren : Go.Shelf.Ren := ⟨fun | 219 => 96 | 217 => 139 | 225 => 140 | 224 => 141 | 267 => 142 | 266 => 174 | 314 => 175 | n => n, fun | 9 => 9 | 3 => 3 | 4 => 4 | 5 => 5 | 46 => 69 | 146 => 182 | 51 => 181 | n => n, fun | 1 => 0 | n => n⟩
theorem Tryz.lays219 : Go.Proofs.Lays.n219 Tryz.prog Tryz.lays219_ren := {
  mixed := by kernel_rfl
  f217 := Tryz.func139.trans (congrArg some (by kernel_rfl))
  f219 := Tryz.func96.trans (congrArg some (by kernel_rfl))
  f224 := Tryz.func141.trans (congrArg some (by kernel_rfl))
  f225 := Tryz.func140.trans (congrArg some (by kernel_rfl))
  f266 := Tryz.func174.trans (congrArg some (by kernel_rfl))
  f267 := Tryz.func142.trans (congrArg some (by kernel_rfl))
  f314 := Tryz.func175.trans (congrArg some (by kernel_rfl))
  t3 := Tryz.underlying3
  a3 := Tryz.isAgg3
  z3 := Tryz.sizeOf3
  v3 := Tryz.zeroValue3
  t4 := Tryz.underlying4
  a4 := Tryz.isAgg4
  z4 := Tryz.sizeOf4
  v4 := Tryz.zeroValue4
  t5 := Tryz.underlying5
  a5 := Tryz.isAgg5
  z5 := Tryz.sizeOf5
  v5 := Tryz.zeroValue5
  t9 := Tryz.underlying9
  a9 := Tryz.isAgg9
  z9 := Tryz.sizeOf9
  v9 := Tryz.zeroValue9
  t46 := Tryz.underlying69
  a46 := Tryz.isAgg69
  z46 := Tryz.sizeOf69
  v46 := Tryz.zeroValue69
  t51 := Tryz.underlying181
  a51 := Tryz.isAgg181
  z51 := Tryz.sizeOf181
  v51 := Tryz.zeroValue181
  t146 := Tryz.underlying182
  a146 := Tryz.isAgg182
  z146 := Tryz.sizeOf182
  v146 := Tryz.zeroValue182
  g1 := by kernel_rfl }
open Go.RowKit Go.Lib in
theorem Tryz.stringslite_Index_one (s : ByteArray) (c : UInt8) (w : World) :
    Calls Tryz.prog 96 #[.string s, .string ⟨#[c]⟩] w fun e w' => e = .returned (.int .i64 (Lib.indexByte s.data.toList c)) ∧ w' = w := Any.stringslite_Index_one Tryz.lays219 s c w
def Tryz.laysGw15_ren : Go.Shelf.Ren := ⟨fun | 15 => 137 | 20 => 172 | n => n, fun | 9 => 9 | 23 => 152 | 3 => 3 | 4 => 4 | 0 => 0 | 21 => 21 | n => n, fun | n => n⟩
theorem Tryz.laysGw15 : Go.Proofs.LaysGw.n15 Tryz.prog Tryz.laysGw15_ren := {
  mixed := by kernel_rfl
  f15 := Tryz.func137.trans (congrArg some (by kernel_rfl))
  f20 := Tryz.func172.trans (congrArg some (by kernel_rfl))
  t0 := Tryz.underlying0
  a0 := Tryz.isAgg0
  z0 := Tryz.sizeOf0
  v0 := Tryz.zeroValue0
  i0 := by kernel_rfl
  t3 := Tryz.underlying3
  a3 := Tryz.isAgg3
  z3 := Tryz.sizeOf3
  v3 := Tryz.zeroValue3
  i3 := by kernel_rfl
  t4 := Tryz.underlying4
  a4 := Tryz.isAgg4
  z4 := Tryz.sizeOf4
  v4 := Tryz.zeroValue4
  i4 := by kernel_rfl
  t9 := Tryz.underlying9
  a9 := Tryz.isAgg9
  z9 := Tryz.sizeOf9
  v9 := Tryz.zeroValue9
  i9 := by kernel_rfl
  t21 := Tryz.underlying21
  a21 := Tryz.isAgg21
  z21 := Tryz.sizeOf21
  v21 := Tryz.zeroValue21
  i21 := by kernel_rfl
  t23 := Tryz.underlying152
  a23 := Tryz.isAgg152
  z23 := Tryz.sizeOf152
  v23 := Tryz.zeroValue152
  i23 := by kernel_rfl }
open Go.RowKit Go.Lib in
theorem Tryz.strings_IndexFunc (g : Nat) (lb : Array Value) (eg : ∀ args w, (callFunc g args).run Tryz.prog w = .ok (.enter g args) w) (p : Nat → Bool) (s : ByteArray) (w : World) (hp : PredAt Tryz.prog g lb encR p w) :
    Calls Tryz.prog 137 #[.string s, .func (.func g) #[] lb] w fun e w' => e = .returned (.int .i64 (Lib.idxFunc p true s)) ∧ Below w.heap.size w w' := Any.strings_IndexFunc Tryz.laysGw15 g lb eg p s w hp
def Tryz.lays101_ren : Go.Shelf.Ren := ⟨fun | 101 => 163 | 208 => 197 | 206 => 190 | n => n, fun | 9 => 9 | 4 => 4 | 3 => 3 | n => n, fun | n => n⟩
theorem Tryz.lays101 : Go.Proofs.Lays.n101 Tryz.prog Tryz.lays101_ren := {
  mixed := by kernel_rfl
  f101 := Tryz.func163.trans (congrArg some (by kernel_rfl))
  f206 := Tryz.func190.trans (congrArg some (by kernel_rfl))
  f208 := Tryz.func197.trans (congrArg some (by kernel_rfl))
  t3 := Tryz.underlying3
  a3 := Tryz.isAgg3
  z3 := Tryz.sizeOf3
  v3 := Tryz.zeroValue3
  t4 := Tryz.underlying4
  a4 := Tryz.isAgg4
  z4 := Tryz.sizeOf4
  v4 := Tryz.zeroValue4
  t9 := Tryz.underlying9
  a9 := Tryz.isAgg9
  z9 := Tryz.sizeOf9
  v9 := Tryz.zeroValue9 }
open Go.RowKit Go.Lib in
theorem Tryz.strings_TrimPrefix (s p : ByteArray) (w : World) :
    Calls Tryz.prog 163 #[.string s, .string p] w fun e w' => e = .returned (.string ⟨(Lib.trimPrefix s.data.toList p.data.toList).toArray⟩) ∧ w' = w := Any.strings_TrimPrefix Tryz.lays101 s p w
def Tryz.lays105_ren : Go.Shelf.Ren := ⟨fun | 105 => 107 | 212 => 152 | 99 => 153 | 165 => 154 | 166 => 106 | 170 => 108 | 169 => 109 | 263 => 188 | 264 => 189 | 206 => 190 | 240 => 151 | 241 => 191 | 276 => 187 | 277 => 212 | n => n, fun | 9 => 9 | 3 => 3 | 4 => 4 | 20 => 20 | 0 => 0 | 46 => 69 | 109 => 160 | 5 => 5 | 72 => 117 | 76 => 125 | 51 => 181 | 146 => 182 | 53 => 121 | 148 => 196 | 70 => 115 | 37 => 107 | 75 => 124 | 127 => 164 | 164 => 193 | 80 => 129 | n => n, fun | n => n⟩
theorem Tryz.lays105 : Go.Proofs.Lays.n105 Tryz.prog Tryz.lays105_ren := {
  mixed := by kernel_rfl
  f99 := Tryz.func153.trans (congrArg some (by kernel_rfl))
  f105 := Tryz.func107.trans (congrArg some (by kernel_rfl))
  f165 := Tryz.func154.trans (congrArg some (by kernel_rfl))
  f166 := Tryz.func106.trans (congrArg some (by kernel_rfl))
  f169 := Tryz.func109.trans (congrArg some (by kernel_rfl))
  f170 := Tryz.func108.trans (congrArg some (by kernel_rfl))
  f206 := Tryz.func190.trans (congrArg some (by kernel_rfl))
  f212 := Tryz.func152.trans (congrArg some (by kernel_rfl))
  f240 := Tryz.func151.trans (congrArg some (by kernel_rfl))
  f241 := Tryz.func191.trans (congrArg some (by kernel_rfl))
  f263 := Tryz.func188.trans (congrArg some (by kernel_rfl))
  f264 := Tryz.func189.trans (congrArg some (by kernel_rfl))
  f276 := Tryz.func187.trans (congrArg some (by kernel_rfl))
  f277 := Tryz.func212.trans (congrArg some (by kernel_rfl))
  t0 := Tryz.underlying0
  a0 := Tryz.isAgg0
  z0 := Tryz.sizeOf0
  v0 := Tryz.zeroValue0
  t3 := Tryz.underlying3
  a3 := Tryz.isAgg3
  z3 := Tryz.sizeOf3
  v3 := Tryz.zeroValue3
  t4 := Tryz.underlying4
  a4 := Tryz.isAgg4
  z4 := Tryz.sizeOf4
  v4 := Tryz.zeroValue4
  t5 := Tryz.underlying5
  a5 := Tryz.isAgg5
  z5 := Tryz.sizeOf5
  v5 := Tryz.zeroValue5
  t9 := Tryz.underlying9
  a9 := Tryz.isAgg9
  z9 := Tryz.sizeOf9
  v9 := Tryz.zeroValue9
  t20 := Tryz.underlying20
  a20 := Tryz.isAgg20
  z20 := Tryz.sizeOf20
  v20 := Tryz.zeroValue20
  t37 := Tryz.underlying107
  a37 := Tryz.isAgg107
  z37 := Tryz.sizeOf107
  v37 := Tryz.zeroValue107
  t46 := Tryz.underlying69
  a46 := Tryz.isAgg69
  z46 := Tryz.sizeOf69
  v46 := Tryz.zeroValue69
  t51 := Tryz.underlying181
  a51 := Tryz.isAgg181
  z51 := Tryz.sizeOf181
  v51 := Tryz.zeroValue181
  t53 := Tryz.underlying121
  a53 := Tryz.isAgg121
  z53 := Tryz.sizeOf121
  v53 := Tryz.zeroValue121
  t70 := Tryz.underlying115
  a70 := Tryz.isAgg115
  z70 := Tryz.sizeOf115
  v70 := Tryz.zeroValue115
  t72 := Tryz.underlying117
  a72 := Tryz.isAgg117
  z72 := Tryz.sizeOf117
  v72 := Tryz.zeroValue117
  t75 := Tryz.underlying124
  a75 := Tryz.isAgg124
  z75 := Tryz.sizeOf124
  v75 := Tryz.zeroValue124
  t76 := Tryz.underlying125
  a76 := Tryz.isAgg125
  z76 := Tryz.sizeOf125
  v76 := Tryz.zeroValue125
  t109 := Tryz.underlying160
  a109 := Tryz.isAgg160
  z109 := Tryz.sizeOf160
  v109 := Tryz.zeroValue160
  t127 := Tryz.underlying164
  a127 := Tryz.isAgg164
  z127 := Tryz.sizeOf164
  v127 := Tryz.zeroValue164
  t146 := Tryz.underlying182
  a146 := Tryz.isAgg182
  z146 := Tryz.sizeOf182
  v146 := Tryz.zeroValue182
  t148 := Tryz.underlying196
  a148 := Tryz.isAgg196
  z148 := Tryz.sizeOf196
  v148 := Tryz.zeroValue196
  t164 := Tryz.underlying193
  a164 := Tryz.isAgg193
  z164 := Tryz.sizeOf193
  v164 := Tryz.zeroValue193 }
theorem Tryz.Builder_Extra_105 : Builder.Extra Tryz.prog Tryz.lays105_ren := {
  sizeBuilder := by kernel_rfl
  liesBuilder := by kernel_rfl
  t5 := Tryz.underlying5
  a5 := Tryz.isAgg5
  z5 := Tryz.sizeOf5
  v5 := Tryz.zeroValue5
  infoByte := by kernel_rfl
  cellsByte := by kernel_rfl
  sizeByte := by kernel_rfl
  neB5 := by decide }
open Go.RowKit Go.Lib in
theorem Tryz.strings_Repeat (s : ByteArray) (c : Nat) (w : World) (hc : c ≤ 9223372036854775807) (hlen : s.size * c ≤ 140737488355328) :
    Calls Tryz.prog 107 #[.string s, .int .i64 c] w fun e w' => e = .returned (.string ⟨(Lib.repeatL s.data.toList c).toArray⟩) ∧ Below w.heap.size w w' := Any.strings_Repeat Tryz.lays105 Tryz.Builder_Extra_105 s c w hc hlen
end Go.Proofs
