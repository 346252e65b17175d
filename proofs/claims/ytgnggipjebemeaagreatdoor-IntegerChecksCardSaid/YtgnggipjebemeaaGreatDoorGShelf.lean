/- Lemmas and contracts of functions, joined for the claim: Shelf. -/
import Derived.Shelf.Strings.Builder1
import Derived.Shelf.Strings.Builder2
import Derived.Shelf.Strings.Trim
import Derived.Shelf.Small.Utf8
import Derived.Shelf.Small.Strs
import Derived.Shelf.Small.Wraps
import Derived.Shelf.Strings.BuilderF
import Derived.Shelf.Strings.BuilderK
import Derived.Shelf.Strings.Builder2Cap
import Derived.Shelf.Strconv.Atoi
import Derived.Shelf.Strconv.Itoa0
import Derived.Shelf.Strconv.Itoa1
import Derived.Shelf.LaysM
import Derived.Shelf.Strconv.Itoa2
import Derived.Shelf.Strconv.Itoa3
import Derived.Shelf.Strconv.AtoiErrFast
import Derived.Shelf.Strconv.ParseIntEmpty
import Derived.Shelf.Strconv.AtoiFail
import Derived.Shelf.Strconv.Clone
import Derived.Shelf.Strconv.SyntaxError
import Derived.Shelf.LaysC
import Derived.Shelf.Strconv.ToError
import Derived.Shelf.Strconv.AtoiErr
import Derived.Shelf.Strconv.ErrVar
import Derived.Shelf.Strconv.Lower
import Derived.Shelf.Strconv.ParseUint10
import Derived.Shelf.Strconv.ParseUint10Empty
import Derived.Shelf.Strconv.ParseUint10Any
import Derived.Shelf.Strconv.ParseInt10
import Derived.Shelf.Strconv.AtoiLong
import Derived.Shelf.Strconv.AtoiInnerAll
import Derived.Shelf.Strconv.RangeError
import Derived.Shelf.Strconv.ToErrorRange
import Derived.Shelf.Strconv.AtoiAll
import Derived.Shelf.Strconv.ErrVarAll
import Derived.Shelf.Strconv.ParseUintEmpty
import Derived.Shelf.Strconv.ParseUint10b64
import Derived.Shelf.Strconv.ParseUint10b32
import Derived.Shelf.Strconv.ParseUint10b16
import Derived.Shelf.Strconv.ParseUint10b8
import Derived.Shelf.Strconv.ParseUint10At
import Derived.Ground.MpProg
import Derived.Shelf.Pu.ParseUintPublic10
import Derived.Shelf.Pu.ErrVarParseUint
import Derived.Shelf.Strings.Search1
import Derived.Shelf.Strings.Prefix
import Derived.Shelf.Unicode.Decode
import Derived.Shelf.Strings.Runes
import Derived.Shelf.Strings.AsciiSet
import Derived.Shelf.Bits.Mul64
import Derived.Shelf.Strings.Repeat
import Derived.Shelf.Unicode.DecodeSlow
import Derived.Shelf.Unicode.DecodeAny
import Derived.Shelf.Unicode.DecodeLast
import Derived.Shelf.Strings.BuilderCap
import Derived.Test.YtgnggipjebemeaaGreatDoorProg
namespace Go.Proofs
open Go.Shelf
def Tryz.lays170_ren : Go.Shelf.Ren := ⟨fun | 170 => 76 | n => n, fun | 70 => 79 | 3 => 3 | 0 => 0 | 72 => 81 | 37 => 66 | 5 => 5 | n => n, fun | n => n⟩
theorem Tryz.lays170 : Go.Proofs.Lays.n170 Tryz.prog Tryz.lays170_ren := {
  mixed := by kernel_rfl
  f170 := Tryz.func76.trans (congrArg some (by kernel_rfl))
  t0 := Tryz.underlying0
  a0 := Tryz.isAgg0
  z0 := Tryz.sizeOf0
  v0 := Tryz.zeroValue0
  t3 := Tryz.underlying3
  a3 := Tryz.isAgg3
  z3 := Tryz.sizeOf3
  v3 := Tryz.zeroValue3
  t37 := Tryz.underlying66
  a37 := Tryz.isAgg66
  z37 := Tryz.sizeOf66
  v37 := Tryz.zeroValue66
  t70 := Tryz.underlying79
  a70 := Tryz.isAgg79
  z70 := Tryz.sizeOf79
  v70 := Tryz.zeroValue79
  t72 := Tryz.underlying81
  a72 := Tryz.isAgg81
  z72 := Tryz.sizeOf81
  v72 := Tryz.zeroValue81 }
def Tryz.lays169_ren : Go.Shelf.Ren := ⟨fun | 169 => 77 | n => n, fun | 70 => 79 | 9 => 9 | 0 => 0 | 72 => 81 | 37 => 66 | 127 => 117 | 3 => 3 | 5 => 5 | n => n, fun | n => n⟩
theorem Tryz.lays169 : Go.Proofs.Lays.n169 Tryz.prog Tryz.lays169_ren := {
  mixed := by kernel_rfl
  f169 := Tryz.func77.trans (congrArg some (by kernel_rfl))
  t0 := Tryz.underlying0
  a0 := Tryz.isAgg0
  z0 := Tryz.sizeOf0
  v0 := Tryz.zeroValue0
  t3 := Tryz.underlying3
  a3 := Tryz.isAgg3
  z3 := Tryz.sizeOf3
  v3 := Tryz.zeroValue3
  t9 := Tryz.underlying9
  a9 := Tryz.isAgg9
  z9 := Tryz.sizeOf9
  v9 := Tryz.zeroValue9
  t37 := Tryz.underlying66
  a37 := Tryz.isAgg66
  z37 := Tryz.sizeOf66
  v37 := Tryz.zeroValue66
  t70 := Tryz.underlying79
  a70 := Tryz.isAgg79
  z70 := Tryz.sizeOf79
  v70 := Tryz.zeroValue79
  t72 := Tryz.underlying81
  a72 := Tryz.isAgg81
  z72 := Tryz.sizeOf81
  v72 := Tryz.zeroValue81
  t127 := Tryz.underlying117
  a127 := Tryz.isAgg117
  z127 := Tryz.sizeOf117
  v127 := Tryz.zeroValue117 }
theorem Tryz.Builder_Extra_169 : Builder.Extra Tryz.prog Tryz.lays169_ren := {
  sizeBuilder := by kernel_rfl
  liesBuilder := by kernel_rfl
  t5 := Tryz.underlying5
  a5 := Tryz.isAgg5
  z5 := Tryz.sizeOf5
  v5 := Tryz.zeroValue5
  infoByte := by kernel_rfl
  cellsByte := by kernel_rfl
  sizeByte := by kernel_rfl
  neB5 := by decide }
def Tryz.lays160_ren : Go.Shelf.Ren := ⟨fun | 160 => 66 | 232 => 94 | 231 => 93 | 227 => 95 | 234 => 97 | 233 => 96 | 236 => 99 | 235 => 98 | 228 => 117 | 271 => 120 | 151 => 119 | 197 => 118 | 120 => 135 | 152 => 134 | 260 => 133 | 137 => 144 | 119 => 145 | 224 => 146 | 225 => 147 | 217 => 150 | 266 => 151 | n => n, fun | 9 => 9 | 4 => 4 | 3 => 3 | 5 => 5 | 117 => 103 | 116 => 102 | 0 => 0 | 124 => 106 | 21 => 21 | 105 => 128 | 46 => 112 | 119 => 160 | 139 => 163 | 138 => 162 | n => n, fun | 3 => 3 | 4 => 4 | n => n⟩
theorem Tryz.lays160 : Go.Proofs.Lays.n160 Tryz.prog Tryz.lays160_ren := {
  mixed := by kernel_rfl
  f119 := Tryz.func145.trans (congrArg some (by kernel_rfl))
  f120 := Tryz.func135.trans (congrArg some (by kernel_rfl))
  f137 := Tryz.func144.trans (congrArg some (by kernel_rfl))
  f151 := Tryz.func119.trans (congrArg some (by kernel_rfl))
  f152 := Tryz.func134.trans (congrArg some (by kernel_rfl))
  f160 := Tryz.func66.trans (congrArg some (by kernel_rfl))
  f197 := Tryz.func118.trans (congrArg some (by kernel_rfl))
  f217 := Tryz.func150.trans (congrArg some (by kernel_rfl))
  f224 := Tryz.func146.trans (congrArg some (by kernel_rfl))
  f225 := Tryz.func147.trans (congrArg some (by kernel_rfl))
  f227 := Tryz.func95.trans (congrArg some (by kernel_rfl))
  f228 := Tryz.func117.trans (congrArg some (by kernel_rfl))
  f231 := Tryz.func93.trans (congrArg some (by kernel_rfl))
  f232 := Tryz.func94.trans (congrArg some (by kernel_rfl))
  f233 := Tryz.func96.trans (congrArg some (by kernel_rfl))
  f234 := Tryz.func97.trans (congrArg some (by kernel_rfl))
  f235 := Tryz.func98.trans (congrArg some (by kernel_rfl))
  f236 := Tryz.func99.trans (congrArg some (by kernel_rfl))
  f260 := Tryz.func133.trans (congrArg some (by kernel_rfl))
  f266 := Tryz.func151.trans (congrArg some (by kernel_rfl))
  f271 := Tryz.func120.trans (congrArg some (by kernel_rfl))
  t0 := Tryz.underlying0
  a0 := Tryz.isAgg0
  z0 := Tryz.sizeOf0
  v0 := Tryz.zeroValue0
  t3 := Tryz.underlying3
  a3 := Tryz.isAgg3
  z3 := Tryz.sizeOf3
  v3 := Tryz.zeroValue3
  t4 := Tryz.underlying4
  a4 := Tryz.isAgg4
  z4 := Tryz.sizeOf4
  v4 := Tryz.zeroValue4
  t5 := Tryz.underlying5
  a5 := Tryz.isAgg5
  z5 := Tryz.sizeOf5
  v5 := Tryz.zeroValue5
  t9 := Tryz.underlying9
  a9 := Tryz.isAgg9
  z9 := Tryz.sizeOf9
  v9 := Tryz.zeroValue9
  t21 := Tryz.underlying21
  a21 := Tryz.isAgg21
  z21 := Tryz.sizeOf21
  v21 := Tryz.zeroValue21
  t46 := Tryz.underlying112
  a46 := Tryz.isAgg112
  z46 := Tryz.sizeOf112
  v46 := Tryz.zeroValue112
  t105 := Tryz.underlying128
  a105 := Tryz.isAgg128
  z105 := Tryz.sizeOf128
  v105 := Tryz.zeroValue128
  t116 := Tryz.underlying102
  a116 := Tryz.isAgg102
  z116 := Tryz.sizeOf102
  t117 := Tryz.underlying103
  a117 := Tryz.isAgg103
  z117 := Tryz.sizeOf103
  v117 := Tryz.zeroValue103
  t119 := Tryz.underlying160
  a119 := Tryz.isAgg160
  z119 := Tryz.sizeOf160
  t124 := Tryz.underlying106
  a124 := Tryz.isAgg106
  z124 := Tryz.sizeOf106
  v124 := Tryz.zeroValue106
  t138 := Tryz.underlying162
  a138 := Tryz.isAgg162
  z138 := Tryz.sizeOf162
  v138 := Tryz.zeroValue162
  t139 := Tryz.underlying163
  a139 := Tryz.isAgg163
  z139 := Tryz.sizeOf163
  v139 := Tryz.zeroValue163
  g3 := by kernel_rfl
  g4 := by kernel_rfl }
open Go.RowKit in
theorem Tryz.Builder_Len_f (B b : Nat) (bs : List Value) (w : World) (h : Lib.IsBuilderF 81 5 B b bs w) :
    Calls Tryz.prog 76 #[.pointer (some ⟨b, 0, none⟩)] w fun e w' => e = .returned (.int .i64 bs.length) ∧ w' = w := Any.Builder_Len_f Tryz.lays170 B b bs w h
open Go.RowKit in
theorem Tryz.Builder_String_any_k (B b : Nat) (l : List UInt8) (w : World) (h : Lib.IsBuilderF 81 5 B b (Lib.byteCells l) w) (hBw : B ≤ w.heap.size) :
    Calls Tryz.prog 77 #[.pointer (some ⟨b, 0, none⟩)] w fun e w' => e = .returned (.string ⟨l.toArray⟩) ∧ (Lib.IsBuilderF 81 5 B b (Lib.byteCells l) w' ∧ Below B w w' ∧ Lib.OthersKept 5 (some b) w w') := Any.Builder_String_any_k Tryz.lays169 Tryz.Builder_Extra_169 B b l w h hBw
def Tryz.lays283_ren : Go.Shelf.Ren := ⟨fun | 283 => 121 | n => n, fun | 3 => 3 | 9 => 9 | 4 => 4 | n => n, fun | n => n⟩
theorem Tryz.lays283 : Go.Proofs.Lays.n283 Tryz.prog Tryz.lays283_ren := {
  mixed := by kernel_rfl
  f283 := Tryz.func121.trans (congrArg some (by kernel_rfl))
  t3 := Tryz.underlying3
  a3 := Tryz.isAgg3
  z3 := Tryz.sizeOf3
  v3 := Tryz.zeroValue3
  t4 := Tryz.underlying4
  a4 := Tryz.isAgg4
  z4 := Tryz.sizeOf4
  v4 := Tryz.zeroValue4
  t9 := Tryz.underlying9
  a9 := Tryz.isAgg9
  z9 := Tryz.sizeOf9
  v9 := Tryz.zeroValue9 }
open Go.Lib in
theorem Tryz.internal_strconv_small (i : Nat) (h : i < 100) (w : World) :
    Calls Tryz.prog 121 #[.int .i64 i] w fun e w' => e = .returned (.string ⟨(Lib.decDigits i).toArray⟩) ∧ w' = w := Any.internal_strconv_small Tryz.lays283 i h w
def Tryz.laysM284_ren : Go.Shelf.Ren := ⟨fun | 284 => 122 | 129 => 137 | 317 => 136 | 318 => 138 | n => n, fun | 53 => 85 | 3 => 3 | 212 => 150 | 0 => 0 | 4 => 4 | 46 => 112 | 5 => 5 | 9 => 9 | n => n, fun | 17 => 2 | n => n⟩
theorem Tryz.laysM284 : Go.Proofs.LaysM.n284 Tryz.prog Tryz.laysM284_ren := {
  mixed := by kernel_rfl
  f129 := Tryz.func137.trans (congrArg some (by kernel_rfl))
  f284 := Tryz.func122.trans (congrArg some (by kernel_rfl))
  f317 := Tryz.func136.trans (congrArg some (by kernel_rfl))
  f318 := Tryz.func138.trans (congrArg some (by kernel_rfl))
  t0 := Tryz.underlying0
  a0 := Tryz.isAgg0
  z0 := Tryz.sizeOf0
  v0 := Tryz.zeroValue0
  t3 := Tryz.underlying3
  a3 := Tryz.isAgg3
  z3 := Tryz.sizeOf3
  v3 := Tryz.zeroValue3
  t4 := Tryz.underlying4
  a4 := Tryz.isAgg4
  z4 := Tryz.sizeOf4
  v4 := Tryz.zeroValue4
  t5 := Tryz.underlying5
  a5 := Tryz.isAgg5
  z5 := Tryz.sizeOf5
  v5 := Tryz.zeroValue5
  t9 := Tryz.underlying9
  a9 := Tryz.isAgg9
  z9 := Tryz.sizeOf9
  v9 := Tryz.zeroValue9
  t46 := Tryz.underlying112
  a46 := Tryz.isAgg112
  z46 := Tryz.sizeOf112
  v46 := Tryz.zeroValue112
  t53 := Tryz.underlying85
  a53 := Tryz.isAgg85
  z53 := Tryz.sizeOf85
  v53 := Tryz.zeroValue85
  t212 := Tryz.underlying150
  a212 := Tryz.isAgg150
  z212 := Tryz.sizeOf150
  v212 := Tryz.zeroValue150
  g17 := by kernel_rfl
  i0 := by kernel_rfl
  i3 := by kernel_rfl
  i4 := by kernel_rfl
  i5 := by kernel_rfl
  i9 := by kernel_rfl
  i46 := by kernel_rfl
  i53 := by kernel_rfl
  i212 := by kernel_rfl
  m17 := by kernel_rfl }
open Go.Lib in
theorem Tryz.internal_strconv_numDigits (u : Nat) (h1 : 1 ≤ u) (h2 : u < 18446744073709551616) (w : World) (htab : Lib.TabIs Tryz.prog w "internal/strconv.uint64pow10" .u64 Lib.pow10Tab) :
    Calls Tryz.prog 122 #[.int .u64 u] w fun e w' => e = .returned (.int .i64 (Lib.nDigits u)) ∧ w' = w := Any.internal_strconv_numDigits Tryz.laysM284 u h1 h2 w htab
def Tryz.lays285_ren : Go.Shelf.Ren := ⟨fun | 285 => 123 | n => n, fun | 37 => 66 | 53 => 85 | 3 => 3 | 4 => 4 | 51 => 138 | 9 => 9 | 5 => 5 | 0 => 0 | n => n, fun | n => n⟩
theorem Tryz.lays285 : Go.Proofs.Lays.n285 Tryz.prog Tryz.lays285_ren := {
  mixed := by kernel_rfl
  f285 := Tryz.func123.trans (congrArg some (by kernel_rfl))
  t0 := Tryz.underlying0
  a0 := Tryz.isAgg0
  z0 := Tryz.sizeOf0
  v0 := Tryz.zeroValue0
  t3 := Tryz.underlying3
  a3 := Tryz.isAgg3
  z3 := Tryz.sizeOf3
  v3 := Tryz.zeroValue3
  t4 := Tryz.underlying4
  a4 := Tryz.isAgg4
  z4 := Tryz.sizeOf4
  v4 := Tryz.zeroValue4
  t5 := Tryz.underlying5
  a5 := Tryz.isAgg5
  z5 := Tryz.sizeOf5
  v5 := Tryz.zeroValue5
  t9 := Tryz.underlying9
  a9 := Tryz.isAgg9
  z9 := Tryz.sizeOf9
  v9 := Tryz.zeroValue9
  t37 := Tryz.underlying66
  a37 := Tryz.isAgg66
  z37 := Tryz.sizeOf66
  v37 := Tryz.zeroValue66
  t51 := Tryz.underlying138
  a51 := Tryz.isAgg138
  z51 := Tryz.sizeOf138
  v51 := Tryz.zeroValue138
  t53 := Tryz.underlying85
  a53 := Tryz.isAgg85
  z53 := Tryz.sizeOf85
  v53 := Tryz.zeroValue85 }
open Go.RowKit Go.Sort Go.Lib in
theorem Tryz.internal_strconv_formatBase10 (blk off cap : Nat) (u : Nat) (d : Array UInt8) (w : World) (hH : Holds (fun (b : UInt8) => Value.int .u8 (b.toNat : Int)) w blk off d) (hu : u < 10 ^ d.size) (hu64 : u < 18446744073709551616) (hsz : d.size < 4611686018427387904) :
    Calls Tryz.prog 123 #[.slice (some ⟨blk, off, none⟩) d.size cap, .int .u64 u] w fun e w' =>
      e = .returned (.tuple #[]) ∧ ∃ (n v' : Nat) (dk : Array UInt8), w' = (putRow (fun (b : UInt8) => Value.int .u8 (b.toNat : Int)) w blk off dk).drewN n ∧ FmtInv d.size u 0 v' dk := Any.internal_strconv_formatBase10 Tryz.lays285 blk off cap u d w hH hu hu64 hsz
def Tryz.laysM171_ren : Go.Shelf.Ren := ⟨fun | 171 => 62 | 243 => 90 | 246 => 111 | 283 => 121 | 284 => 122 | 285 => 123 | 286 => 124 | 129 => 137 | 317 => 136 | 318 => 138 | 319 => 139 | 320 => 140 | 337 => 148 | 338 => 149 | n => n, fun | 3 => 3 | 9 => 9 | 2 => 2 | 4 => 4 | 171 => 131 | 0 => 0 | 53 => 85 | 37 => 66 | 5 => 5 | 173 => 134 | 212 => 150 | 51 => 138 | 20 => 20 | 213 => 151 | 46 => 112 | 232 => 167 | 233 => 168 | n => n, fun | 17 => 2 | 18 => 6 | 19 => 7 | n => n⟩
theorem Tryz.laysM171 : Go.Proofs.LaysM.n171 Tryz.prog Tryz.laysM171_ren := {
  mixed := by kernel_rfl
  f129 := Tryz.func137.trans (congrArg some (by kernel_rfl))
  f171 := Tryz.func62.trans (congrArg some (by kernel_rfl))
  f243 := Tryz.func90.trans (congrArg some (by kernel_rfl))
  f246 := Tryz.func111.trans (congrArg some (by kernel_rfl))
  f283 := Tryz.func121.trans (congrArg some (by kernel_rfl))
  f284 := Tryz.func122.trans (congrArg some (by kernel_rfl))
  f285 := Tryz.func123.trans (congrArg some (by kernel_rfl))
  f286 := Tryz.func124.trans (congrArg some (by kernel_rfl))
  f317 := Tryz.func136.trans (congrArg some (by kernel_rfl))
  f318 := Tryz.func138.trans (congrArg some (by kernel_rfl))
  f319 := Tryz.func139.trans (congrArg some (by kernel_rfl))
  f320 := Tryz.func140.trans (congrArg some (by kernel_rfl))
  f337 := Tryz.func148.trans (congrArg some (by kernel_rfl))
  f338 := Tryz.func149.trans (congrArg some (by kernel_rfl))
  t0 := Tryz.underlying0
  a0 := Tryz.isAgg0
  z0 := Tryz.sizeOf0
  v0 := Tryz.zeroValue0
  t2 := Tryz.underlying2
  a2 := Tryz.isAgg2
  z2 := Tryz.sizeOf2
  v2 := Tryz.zeroValue2
  t3 := Tryz.underlying3
  a3 := Tryz.isAgg3
  z3 := Tryz.sizeOf3
  v3 := Tryz.zeroValue3
  t4 := Tryz.underlying4
  a4 := Tryz.isAgg4
  z4 := Tryz.sizeOf4
  v4 := Tryz.zeroValue4
  t5 := Tryz.underlying5
  a5 := Tryz.isAgg5
  z5 := Tryz.sizeOf5
  v5 := Tryz.zeroValue5
  t9 := Tryz.underlying9
  a9 := Tryz.isAgg9
  z9 := Tryz.sizeOf9
  v9 := Tryz.zeroValue9
  t20 := Tryz.underlying20
  a20 := Tryz.isAgg20
  z20 := Tryz.sizeOf20
  v20 := Tryz.zeroValue20
  t37 := Tryz.underlying66
  a37 := Tryz.isAgg66
  z37 := Tryz.sizeOf66
  v37 := Tryz.zeroValue66
  t46 := Tryz.underlying112
  a46 := Tryz.isAgg112
  z46 := Tryz.sizeOf112
  v46 := Tryz.zeroValue112
  t51 := Tryz.underlying138
  a51 := Tryz.isAgg138
  z51 := Tryz.sizeOf138
  v51 := Tryz.zeroValue138
  t53 := Tryz.underlying85
  a53 := Tryz.isAgg85
  z53 := Tryz.sizeOf85
  v53 := Tryz.zeroValue85
  t171 := Tryz.underlying131
  a171 := Tryz.isAgg131
  z171 := Tryz.sizeOf131
  v171 := Tryz.zeroValue131
  t173 := Tryz.underlying134
  a173 := Tryz.isAgg134
  z173 := Tryz.sizeOf134
  v173 := Tryz.zeroValue134
  t212 := Tryz.underlying150
  a212 := Tryz.isAgg150
  z212 := Tryz.sizeOf150
  v212 := Tryz.zeroValue150
  t213 := Tryz.underlying151
  a213 := Tryz.isAgg151
  z213 := Tryz.sizeOf151
  t232 := Tryz.underlying167
  a232 := Tryz.isAgg167
  z232 := Tryz.sizeOf167
  v232 := Tryz.zeroValue167
  t233 := Tryz.underlying168
  a233 := Tryz.isAgg168
  z233 := Tryz.sizeOf168
  v233 := Tryz.zeroValue168
  g17 := by kernel_rfl
  g18 := by kernel_rfl
  g19 := by kernel_rfl
  i0 := by kernel_rfl
  i2 := by kernel_rfl
  i3 := by kernel_rfl
  i4 := by kernel_rfl
  i5 := by kernel_rfl
  i9 := by kernel_rfl
  i20 := by kernel_rfl
  i37 := by kernel_rfl
  i46 := by kernel_rfl
  i51 := by kernel_rfl
  i53 := by kernel_rfl
  i171 := by kernel_rfl
  i173 := by kernel_rfl
  i212 := by kernel_rfl
  i232 := by kernel_rfl
  i233 := by kernel_rfl
  m17 := by kernel_rfl
  m18 := by kernel_rfl
  m19 := by kernel_rfl }
open Go.RowKit Go.Sort Go.Lib in
theorem Tryz.strconv_Itoa (n : Int) (h0 : -9223372036854775808 ≤ n) (h1 : n ≤ 9223372036854775807) (w : World) (htab : Lib.TabIs Tryz.prog w "internal/strconv.uint64pow10" .u64 Lib.pow10Tab) :
    Calls Tryz.prog 62 #[.int .i64 n] w fun e w' => e = .returned (.string ⟨(Lib.itoa n).toArray⟩) ∧ ∃ k os, w' = grow (w.drewN k) os := Any.strconv_Itoa Tryz.laysM171 n h0 h1 w htab
def Tryz.laysC172_ren : Go.Shelf.Ren := ⟨fun | 172 => 64 | 244 => 91 | 245 => 92 | 247 => 112 | 279 => 113 | 280 => 114 | 281 => 115 | 282 => 116 | 287 => 130 | 316 => 131 | 171 => 62 | 205 => 132 | 321 => 142 | 322 => 143 | 243 => 90 | 246 => 111 | 283 => 121 | 284 => 122 | 285 => 123 | 286 => 124 | 129 => 137 | 317 => 136 | 318 => 138 | 319 => 139 | 320 => 140 | 337 => 148 | 338 => 149 | n => n, fun | 9 => 9 | 3 => 3 | 75 => 69 | 76 => 70 | 4 => 4 | 5 => 5 | 167 => 121 | 37 => 66 | 0 => 0 | 85 => 122 | 2 => 2 | 168 => 124 | 53 => 85 | 175 => 118 | 46 => 112 | 210 => 145 | 127 => 117 | 145 => 159 | 143 => 157 | 21 => 21 | 171 => 131 | 173 => 134 | 212 => 150 | 51 => 138 | 20 => 20 | 213 => 151 | 232 => 167 | 233 => 168 | 80 => 88 | n => n, fun | 15 => 0 | 16 => 1 | 17 => 2 | 18 => 6 | 19 => 7 | n => n⟩
theorem Tryz.laysC172 : Go.Proofs.LaysC.n172 Tryz.prog Tryz.laysC172_ren := {
  mixed := by kernel_rfl
  f129 := Tryz.func137.trans (congrArg some (by kernel_rfl))
  f171 := Tryz.func62.trans (congrArg some (by kernel_rfl))
  f172 := Tryz.func64.trans (congrArg some (by kernel_rfl))
  f205 := Tryz.func132.trans (congrArg some (by kernel_rfl))
  f243 := Tryz.func90.trans (congrArg some (by kernel_rfl))
  f244 := Tryz.func91.trans (congrArg some (by kernel_rfl))
  f245 := Tryz.func92.trans (congrArg some (by kernel_rfl))
  f246 := Tryz.func111.trans (congrArg some (by kernel_rfl))
  f247 := Tryz.func112.trans (congrArg some (by kernel_rfl))
  f279 := Tryz.func113.trans (congrArg some (by kernel_rfl))
  f280 := Tryz.func114.trans (congrArg some (by kernel_rfl))
  f281 := Tryz.func115.trans (congrArg some (by kernel_rfl))
  f282 := Tryz.func116.trans (congrArg some (by kernel_rfl))
  f283 := Tryz.func121.trans (congrArg some (by kernel_rfl))
  f284 := Tryz.func122.trans (congrArg some (by kernel_rfl))
  f285 := Tryz.func123.trans (congrArg some (by kernel_rfl))
  f286 := Tryz.func124.trans (congrArg some (by kernel_rfl))
  f287 := Tryz.func130.trans (congrArg some (by kernel_rfl))
  f316 := Tryz.func131.trans (congrArg some (by kernel_rfl))
  f317 := Tryz.func136.trans (congrArg some (by kernel_rfl))
  f318 := Tryz.func138.trans (congrArg some (by kernel_rfl))
  f319 := Tryz.func139.trans (congrArg some (by kernel_rfl))
  f320 := Tryz.func140.trans (congrArg some (by kernel_rfl))
  f321 := Tryz.func142.trans (congrArg some (by kernel_rfl))
  f322 := Tryz.func143.trans (congrArg some (by kernel_rfl))
  f337 := Tryz.func148.trans (congrArg some (by kernel_rfl))
  f338 := Tryz.func149.trans (congrArg some (by kernel_rfl))
  t0 := Tryz.underlying0
  a0 := Tryz.isAgg0
  z0 := Tryz.sizeOf0
  v0 := Tryz.zeroValue0
  t2 := Tryz.underlying2
  a2 := Tryz.isAgg2
  z2 := Tryz.sizeOf2
  v2 := Tryz.zeroValue2
  t3 := Tryz.underlying3
  a3 := Tryz.isAgg3
  z3 := Tryz.sizeOf3
  v3 := Tryz.zeroValue3
  t4 := Tryz.underlying4
  a4 := Tryz.isAgg4
  z4 := Tryz.sizeOf4
  v4 := Tryz.zeroValue4
  t5 := Tryz.underlying5
  a5 := Tryz.isAgg5
  z5 := Tryz.sizeOf5
  v5 := Tryz.zeroValue5
  t9 := Tryz.underlying9
  a9 := Tryz.isAgg9
  z9 := Tryz.sizeOf9
  v9 := Tryz.zeroValue9
  t20 := Tryz.underlying20
  a20 := Tryz.isAgg20
  z20 := Tryz.sizeOf20
  v20 := Tryz.zeroValue20
  t21 := Tryz.underlying21
  a21 := Tryz.isAgg21
  z21 := Tryz.sizeOf21
  v21 := Tryz.zeroValue21
  t37 := Tryz.underlying66
  a37 := Tryz.isAgg66
  z37 := Tryz.sizeOf66
  v37 := Tryz.zeroValue66
  t46 := Tryz.underlying112
  a46 := Tryz.isAgg112
  z46 := Tryz.sizeOf112
  v46 := Tryz.zeroValue112
  t51 := Tryz.underlying138
  a51 := Tryz.isAgg138
  z51 := Tryz.sizeOf138
  v51 := Tryz.zeroValue138
  t53 := Tryz.underlying85
  a53 := Tryz.isAgg85
  z53 := Tryz.sizeOf85
  v53 := Tryz.zeroValue85
  t75 := Tryz.underlying69
  a75 := Tryz.isAgg69
  z75 := Tryz.sizeOf69
  v75 := Tryz.zeroValue69
  t76 := Tryz.underlying70
  a76 := Tryz.isAgg70
  z76 := Tryz.sizeOf70
  v76 := Tryz.zeroValue70
  t85 := Tryz.underlying122
  a85 := Tryz.isAgg122
  z85 := Tryz.sizeOf122
  v85 := Tryz.zeroValue122
  t127 := Tryz.underlying117
  a127 := Tryz.isAgg117
  z127 := Tryz.sizeOf117
  v127 := Tryz.zeroValue117
  t143 := Tryz.underlying157
  a143 := Tryz.isAgg157
  z143 := Tryz.sizeOf157
  v143 := Tryz.zeroValue157
  t145 := Tryz.underlying159
  a145 := Tryz.isAgg159
  z145 := Tryz.sizeOf159
  v145 := Tryz.zeroValue159
  t167 := Tryz.underlying121
  a167 := Tryz.isAgg121
  z167 := Tryz.sizeOf121
  v167 := Tryz.zeroValue121
  t168 := Tryz.underlying124
  a168 := Tryz.isAgg124
  z168 := Tryz.sizeOf124
  v168 := Tryz.zeroValue124
  t171 := Tryz.underlying131
  a171 := Tryz.isAgg131
  z171 := Tryz.sizeOf131
  v171 := Tryz.zeroValue131
  t173 := Tryz.underlying134
  a173 := Tryz.isAgg134
  z173 := Tryz.sizeOf134
  v173 := Tryz.zeroValue134
  t175 := Tryz.underlying118
  a175 := Tryz.isAgg118
  z175 := Tryz.sizeOf118
  v175 := Tryz.zeroValue118
  t210 := Tryz.underlying145
  a210 := Tryz.isAgg145
  z210 := Tryz.sizeOf145
  v210 := Tryz.zeroValue145
  t212 := Tryz.underlying150
  a212 := Tryz.isAgg150
  z212 := Tryz.sizeOf150
  v212 := Tryz.zeroValue150
  t213 := Tryz.underlying151
  a213 := Tryz.isAgg151
  z213 := Tryz.sizeOf151
  t232 := Tryz.underlying167
  a232 := Tryz.isAgg167
  z232 := Tryz.sizeOf167
  v232 := Tryz.zeroValue167
  t233 := Tryz.underlying168
  a233 := Tryz.isAgg168
  z233 := Tryz.sizeOf168
  v233 := Tryz.zeroValue168
  g15 := by kernel_rfl
  g16 := by kernel_rfl
  g17 := by kernel_rfl
  g18 := by kernel_rfl
  g19 := by kernel_rfl
  t80 := Tryz.underlying88
  a80 := Tryz.isAgg88
  z80 := Tryz.sizeOf88
  v80 := Tryz.zeroValue88
  i0 := by kernel_rfl
  i2 := by kernel_rfl
  i3 := by kernel_rfl
  i4 := by kernel_rfl
  i5 := by kernel_rfl
  i9 := by kernel_rfl
  i20 := by kernel_rfl
  i21 := by kernel_rfl
  i37 := by kernel_rfl
  i46 := by kernel_rfl
  i51 := by kernel_rfl
  i53 := by kernel_rfl
  i75 := by kernel_rfl
  i76 := by kernel_rfl
  i80 := by kernel_rfl
  i85 := by kernel_rfl
  i127 := by kernel_rfl
  i143 := by kernel_rfl
  i145 := by kernel_rfl
  i167 := by kernel_rfl
  i168 := by kernel_rfl
  i171 := by kernel_rfl
  i173 := by kernel_rfl
  i175 := by kernel_rfl
  i210 := by kernel_rfl
  i212 := by kernel_rfl
  i232 := by kernel_rfl
  i233 := by kernel_rfl
  m15 := by kernel_rfl
  m16 := by kernel_rfl
  m17 := by kernel_rfl
  m18 := by kernel_rfl
  m19 := by kernel_rfl
  c0 := by kernel_rfl
  c2 := by kernel_rfl
  c3 := by kernel_rfl
  c4 := by kernel_rfl
  c5 := by kernel_rfl
  c9 := by kernel_rfl
  c20 := by kernel_rfl
  c21 := by kernel_rfl
  c37 := by kernel_rfl
  c46 := by kernel_rfl
  c51 := by kernel_rfl
  c53 := by kernel_rfl
  c75 := by kernel_rfl
  c76 := by kernel_rfl
  c80 := by kernel_rfl
  c85 := by kernel_rfl
  c127 := by kernel_rfl
  c143 := by kernel_rfl
  c145 := by kernel_rfl
  c167 := by kernel_rfl
  c168 := by kernel_rfl
  c171 := by kernel_rfl
  c173 := by kernel_rfl
  c175 := by kernel_rfl
  c210 := by kernel_rfl
  c212 := by kernel_rfl
  c213 := by kernel_rfl
  c232 := by kernel_rfl
  c233 := by kernel_rfl }
open Go.RowKit in
theorem Tryz.strconv_Atoi_ok (s : ByteArray) (hmax : s.size ≤ 9223372036854775806) (v : Int) (h : Lib.atoiAll s.data.toList = .ok v) (w : World) :
    Calls Tryz.prog 64 #[.string s] w fun e w' => e = .returned (.tuple #[.int .i64 v, .nilIface]) ∧ (w' = w ∨ ∃ t, w' = Lib.bytesWorld w 5 t) := Any.strconv_Atoi_ok Tryz.laysC172 s hmax v h w
open Go.RowKit in
theorem Tryz.strconv_Atoi_range_var (s : ByteArray) (hlim : s.size ≤ 281474976710656) (h : Lib.atoiAll s.data.toList = .range) (tp : TypeId) (p : Value) (w : World) (hvar : w.var? Tryz.prog "strconv.ErrRange" = some #[.iface tp p]) :
    Calls Tryz.prog 64 #[.string s] w fun e w' => ∃ N, e = .returned (.tuple #[.int .i64 (Lib.atoiSat s.data.toList), .iface 124 (.pointer (some ⟨N, 0, none⟩))]) ∧ w.heap.size ≤ N ∧ w'.heap[N]? = some (.cells #[.string ⟨#[65, 116, 111, 105]⟩, .string s, .iface tp p] 145 (0, 0)) ∧ Below w.heap.size w w' := Any.strconv_Atoi_range_var Tryz.laysC172 s hlim h tp p w hvar
def Tryz.laysPu14_ren : Go.Shelf.Ren := ⟨fun | 14 => 110 | 16 => 130 | 17 => 92 | 19 => 142 | 20 => 143 | 21 => 113 | 22 => 114 | 23 => 115 | 24 => 116 | 25 => 131 | 27 => 62 | 26 => 132 | 28 => 90 | 29 => 111 | 30 => 121 | 31 => 122 | 32 => 123 | 33 => 124 | 35 => 137 | 34 => 136 | 36 => 138 | 37 => 139 | 38 => 140 | 39 => 148 | 40 => 149 | n => n, fun | 9 => 9 | 3 => 3 | 22 => 85 | 24 => 69 | 25 => 118 | 4 => 4 | 34 => 121 | 5 => 5 | 36 => 112 | 37 => 66 | 0 => 0 | 39 => 124 | 21 => 21 | 44 => 145 | 47 => 117 | 50 => 159 | 48 => 157 | 2 => 2 | 52 => 131 | 55 => 134 | 59 => 150 | 60 => 138 | 20 => 20 | 61 => 151 | 65 => 167 | 66 => 168 | 67 => 88 | n => n, fun | 0 => 0 | 1 => 1 | 2 => 2 | 3 => 6 | 4 => 7 | n => n⟩
theorem Tryz.laysPu14 : Go.Proofs.LaysPu.n14 Tryz.prog Tryz.laysPu14_ren := {
  mixed := by kernel_rfl
  f14 := Tryz.func110.trans (congrArg some (by kernel_rfl))
  f16 := Tryz.func130.trans (congrArg some (by kernel_rfl))
  f17 := Tryz.func92.trans (congrArg some (by kernel_rfl))
  f19 := Tryz.func142.trans (congrArg some (by kernel_rfl))
  f20 := Tryz.func143.trans (congrArg some (by kernel_rfl))
  f21 := Tryz.func113.trans (congrArg some (by kernel_rfl))
  f22 := Tryz.func114.trans (congrArg some (by kernel_rfl))
  f23 := Tryz.func115.trans (congrArg some (by kernel_rfl))
  f24 := Tryz.func116.trans (congrArg some (by kernel_rfl))
  f25 := Tryz.func131.trans (congrArg some (by kernel_rfl))
  f26 := Tryz.func132.trans (congrArg some (by kernel_rfl))
  f27 := Tryz.func62.trans (congrArg some (by kernel_rfl))
  f28 := Tryz.func90.trans (congrArg some (by kernel_rfl))
  f29 := Tryz.func111.trans (congrArg some (by kernel_rfl))
  f30 := Tryz.func121.trans (congrArg some (by kernel_rfl))
  f31 := Tryz.func122.trans (congrArg some (by kernel_rfl))
  f32 := Tryz.func123.trans (congrArg some (by kernel_rfl))
  f33 := Tryz.func124.trans (congrArg some (by kernel_rfl))
  f34 := Tryz.func136.trans (congrArg some (by kernel_rfl))
  f35 := Tryz.func137.trans (congrArg some (by kernel_rfl))
  f36 := Tryz.func138.trans (congrArg some (by kernel_rfl))
  f37 := Tryz.func139.trans (congrArg some (by kernel_rfl))
  f38 := Tryz.func140.trans (congrArg some (by kernel_rfl))
  f39 := Tryz.func148.trans (congrArg some (by kernel_rfl))
  f40 := Tryz.func149.trans (congrArg some (by kernel_rfl))
  t0 := Tryz.underlying0
  a0 := Tryz.isAgg0
  z0 := Tryz.sizeOf0
  v0 := Tryz.zeroValue0
  i0 := by kernel_rfl
  t2 := Tryz.underlying2
  a2 := Tryz.isAgg2
  z2 := Tryz.sizeOf2
  v2 := Tryz.zeroValue2
  i2 := by kernel_rfl
  t3 := Tryz.underlying3
  a3 := Tryz.isAgg3
  z3 := Tryz.sizeOf3
  v3 := Tryz.zeroValue3
  i3 := by kernel_rfl
  t4 := Tryz.underlying4
  a4 := Tryz.isAgg4
  z4 := Tryz.sizeOf4
  v4 := Tryz.zeroValue4
  i4 := by kernel_rfl
  t5 := Tryz.underlying5
  a5 := Tryz.isAgg5
  z5 := Tryz.sizeOf5
  v5 := Tryz.zeroValue5
  i5 := by kernel_rfl
  t9 := Tryz.underlying9
  a9 := Tryz.isAgg9
  z9 := Tryz.sizeOf9
  v9 := Tryz.zeroValue9
  i9 := by kernel_rfl
  t20 := Tryz.underlying20
  a20 := Tryz.isAgg20
  z20 := Tryz.sizeOf20
  v20 := Tryz.zeroValue20
  i20 := by kernel_rfl
  t21 := Tryz.underlying21
  a21 := Tryz.isAgg21
  z21 := Tryz.sizeOf21
  v21 := Tryz.zeroValue21
  i21 := by kernel_rfl
  t22 := Tryz.underlying85
  a22 := Tryz.isAgg85
  z22 := Tryz.sizeOf85
  v22 := Tryz.zeroValue85
  i22 := by kernel_rfl
  t24 := Tryz.underlying69
  a24 := Tryz.isAgg69
  z24 := Tryz.sizeOf69
  v24 := Tryz.zeroValue69
  i24 := by kernel_rfl
  t25 := Tryz.underlying118
  a25 := Tryz.isAgg118
  z25 := Tryz.sizeOf118
  v25 := Tryz.zeroValue118
  i25 := by kernel_rfl
  t34 := Tryz.underlying121
  a34 := Tryz.isAgg121
  z34 := Tryz.sizeOf121
  v34 := Tryz.zeroValue121
  i34 := by kernel_rfl
  c34 := by kernel_rfl
  t36 := Tryz.underlying112
  a36 := Tryz.isAgg112
  z36 := Tryz.sizeOf112
  v36 := Tryz.zeroValue112
  i36 := by kernel_rfl
  t37 := Tryz.underlying66
  a37 := Tryz.isAgg66
  z37 := Tryz.sizeOf66
  v37 := Tryz.zeroValue66
  i37 := by kernel_rfl
  t39 := Tryz.underlying124
  a39 := Tryz.isAgg124
  z39 := Tryz.sizeOf124
  v39 := Tryz.zeroValue124
  i39 := by kernel_rfl
  t44 := Tryz.underlying145
  a44 := Tryz.isAgg145
  z44 := Tryz.sizeOf145
  v44 := Tryz.zeroValue145
  i44 := by kernel_rfl
  t47 := Tryz.underlying117
  a47 := Tryz.isAgg117
  z47 := Tryz.sizeOf117
  v47 := Tryz.zeroValue117
  i47 := by kernel_rfl
  t48 := Tryz.underlying157
  a48 := Tryz.isAgg157
  z48 := Tryz.sizeOf157
  v48 := Tryz.zeroValue157
  i48 := by kernel_rfl
  t50 := Tryz.underlying159
  a50 := Tryz.isAgg159
  z50 := Tryz.sizeOf159
  v50 := Tryz.zeroValue159
  i50 := by kernel_rfl
  t52 := Tryz.underlying131
  a52 := Tryz.isAgg131
  z52 := Tryz.sizeOf131
  v52 := Tryz.zeroValue131
  i52 := by kernel_rfl
  t55 := Tryz.underlying134
  a55 := Tryz.isAgg134
  z55 := Tryz.sizeOf134
  v55 := Tryz.zeroValue134
  i55 := by kernel_rfl
  t59 := Tryz.underlying150
  a59 := Tryz.isAgg150
  z59 := Tryz.sizeOf150
  v59 := Tryz.zeroValue150
  i59 := by kernel_rfl
  t60 := Tryz.underlying138
  a60 := Tryz.isAgg138
  z60 := Tryz.sizeOf138
  v60 := Tryz.zeroValue138
  i60 := by kernel_rfl
  t61 := Tryz.underlying151
  a61 := Tryz.isAgg151
  z61 := Tryz.sizeOf151
  t65 := Tryz.underlying167
  a65 := Tryz.isAgg167
  z65 := Tryz.sizeOf167
  v65 := Tryz.zeroValue167
  i65 := by kernel_rfl
  t66 := Tryz.underlying168
  a66 := Tryz.isAgg168
  z66 := Tryz.sizeOf168
  v66 := Tryz.zeroValue168
  i66 := by kernel_rfl
  t67 := Tryz.underlying88
  a67 := Tryz.isAgg88
  z67 := Tryz.sizeOf88
  v67 := Tryz.zeroValue88
  i67 := by kernel_rfl
  g0 := by kernel_rfl
  m0 := by kernel_rfl
  g1 := by kernel_rfl
  m1 := by kernel_rfl
  g2 := by kernel_rfl
  m2 := by kernel_rfl
  g3 := by kernel_rfl
  m3 := by kernel_rfl
  g4 := by kernel_rfl
  m4 := by kernel_rfl }
open Go.RowKit in
theorem Tryz.strconv_ParseUint_10_at64_ok (s : ByteArray) (hmax : s.size ≤ 9223372036854775806) (u : Nat) (h : Lib.parseUintB 64 s.data.toList = .ok u) (w : World) :
    Calls Tryz.prog 110 #[.string s, .int .i64 10, .int .i64 64] w fun e w' => e = .returned (.tuple #[.int .u64 u, .nilIface]) ∧ (w' = w ∨ w' = Lib.bytesWorld w 5 s) := Any.strconv_ParseUint_10_at64_ok Tryz.laysPu14 s hmax u h w
def Tryz.lays105_ren : Go.Shelf.Ren := ⟨fun | 105 => 75 | 212 => 106 | 99 => 107 | 165 => 108 | 166 => 74 | 170 => 76 | 169 => 77 | 263 => 126 | 264 => 127 | 206 => 128 | 240 => 105 | 241 => 129 | 276 => 125 | 277 => 141 | n => n, fun | 9 => 9 | 3 => 3 | 4 => 4 | 20 => 20 | 0 => 0 | 46 => 112 | 109 => 113 | 5 => 5 | 72 => 81 | 76 => 70 | 51 => 138 | 146 => 139 | 53 => 85 | 148 => 141 | 70 => 79 | 37 => 66 | 75 => 69 | 127 => 117 | 164 => 136 | 80 => 88 | n => n, fun | n => n⟩
theorem Tryz.lays105 : Go.Proofs.Lays.n105 Tryz.prog Tryz.lays105_ren := {
  mixed := by kernel_rfl
  f99 := Tryz.func107.trans (congrArg some (by kernel_rfl))
  f105 := Tryz.func75.trans (congrArg some (by kernel_rfl))
  f165 := Tryz.func108.trans (congrArg some (by kernel_rfl))
  f166 := Tryz.func74.trans (congrArg some (by kernel_rfl))
  f169 := Tryz.func77.trans (congrArg some (by kernel_rfl))
  f170 := Tryz.func76.trans (congrArg some (by kernel_rfl))
  f206 := Tryz.func128.trans (congrArg some (by kernel_rfl))
  f212 := Tryz.func106.trans (congrArg some (by kernel_rfl))
  f240 := Tryz.func105.trans (congrArg some (by kernel_rfl))
  f241 := Tryz.func129.trans (congrArg some (by kernel_rfl))
  f263 := Tryz.func126.trans (congrArg some (by kernel_rfl))
  f264 := Tryz.func127.trans (congrArg some (by kernel_rfl))
  f276 := Tryz.func125.trans (congrArg some (by kernel_rfl))
  f277 := Tryz.func141.trans (congrArg some (by kernel_rfl))
  t0 := Tryz.underlying0
  a0 := Tryz.isAgg0
  z0 := Tryz.sizeOf0
  v0 := Tryz.zeroValue0
  t3 := Tryz.underlying3
  a3 := Tryz.isAgg3
  z3 := Tryz.sizeOf3
  v3 := Tryz.zeroValue3
  t4 := Tryz.underlying4
  a4 := Tryz.isAgg4
  z4 := Tryz.sizeOf4
  v4 := Tryz.zeroValue4
  t5 := Tryz.underlying5
  a5 := Tryz.isAgg5
  z5 := Tryz.sizeOf5
  v5 := Tryz.zeroValue5
  t9 := Tryz.underlying9
  a9 := Tryz.isAgg9
  z9 := Tryz.sizeOf9
  v9 := Tryz.zeroValue9
  t20 := Tryz.underlying20
  a20 := Tryz.isAgg20
  z20 := Tryz.sizeOf20
  v20 := Tryz.zeroValue20
  t37 := Tryz.underlying66
  a37 := Tryz.isAgg66
  z37 := Tryz.sizeOf66
  v37 := Tryz.zeroValue66
  t46 := Tryz.underlying112
  a46 := Tryz.isAgg112
  z46 := Tryz.sizeOf112
  v46 := Tryz.zeroValue112
  t51 := Tryz.underlying138
  a51 := Tryz.isAgg138
  z51 := Tryz.sizeOf138
  v51 := Tryz.zeroValue138
  t53 := Tryz.underlying85
  a53 := Tryz.isAgg85
  z53 := Tryz.sizeOf85
  v53 := Tryz.zeroValue85
  t70 := Tryz.underlying79
  a70 := Tryz.isAgg79
  z70 := Tryz.sizeOf79
  v70 := Tryz.zeroValue79
  t72 := Tryz.underlying81
  a72 := Tryz.isAgg81
  z72 := Tryz.sizeOf81
  v72 := Tryz.zeroValue81
  t75 := Tryz.underlying69
  a75 := Tryz.isAgg69
  z75 := Tryz.sizeOf69
  v75 := Tryz.zeroValue69
  t76 := Tryz.underlying70
  a76 := Tryz.isAgg70
  z76 := Tryz.sizeOf70
  v76 := Tryz.zeroValue70
  t109 := Tryz.underlying113
  a109 := Tryz.isAgg113
  z109 := Tryz.sizeOf113
  v109 := Tryz.zeroValue113
  t127 := Tryz.underlying117
  a127 := Tryz.isAgg117
  z127 := Tryz.sizeOf117
  v127 := Tryz.zeroValue117
  t146 := Tryz.underlying139
  a146 := Tryz.isAgg139
  z146 := Tryz.sizeOf139
  v146 := Tryz.zeroValue139
  t148 := Tryz.underlying141
  a148 := Tryz.isAgg141
  z148 := Tryz.sizeOf141
  v148 := Tryz.zeroValue141
  t164 := Tryz.underlying136
  a164 := Tryz.isAgg136
  z164 := Tryz.sizeOf136
  v164 := Tryz.zeroValue136 }
theorem Tryz.Builder_Extra_105 : Builder.Extra Tryz.prog Tryz.lays105_ren := {
  sizeBuilder := by kernel_rfl
  liesBuilder := by kernel_rfl
  t5 := Tryz.underlying5
  a5 := Tryz.isAgg5
  z5 := Tryz.sizeOf5
  v5 := Tryz.zeroValue5
  infoByte := by kernel_rfl
  cellsByte := by kernel_rfl
  sizeByte := by kernel_rfl
  neB5 := by decide }
open Go.RowKit Go.Lib in
theorem Tryz.strings_Repeat (s : ByteArray) (c : Nat) (w : World) (hc : c ≤ 9223372036854775807) (hlen : s.size * c ≤ 140737488355328) :
    Calls Tryz.prog 75 #[.string s, .int .i64 c] w fun e w' => e = .returned (.string ⟨(Lib.repeatL s.data.toList c).toArray⟩) ∧ Below w.heap.size w w' := Any.strings_Repeat Tryz.lays105 Tryz.Builder_Extra_105 s c w hc hlen
end Go.Proofs
