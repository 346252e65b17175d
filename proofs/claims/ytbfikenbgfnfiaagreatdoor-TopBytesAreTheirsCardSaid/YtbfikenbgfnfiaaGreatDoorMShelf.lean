/- Lemmas and contracts of functions, joined for the claim: Shelf. -/
import Derived.Shelf.Strings.Builder1
import Derived.Shelf.Strings.Builder2
import Derived.Shelf.Strings.Trim
import Derived.Shelf.Small.Utf8
import Derived.Shelf.Small.Bits
import Derived.Shelf.Small.Strs
import Derived.Shelf.Small.Wraps
import Derived.Shelf.Strings.BuilderF
import Derived.Shelf.Strings.BuilderK
import Derived.Shelf.Strconv.Atoi
import Derived.Shelf.Strconv.Itoa0
import Derived.Shelf.Strconv.Itoa1
import Derived.Shelf.LaysM
import Derived.Shelf.Strconv.Itoa2
import Derived.Shelf.Strconv.Itoa3
import Derived.Shelf.Strconv.AtoiErrFast
import Derived.Shelf.Strconv.ParseIntEmpty
import Derived.Shelf.Strconv.AtoiFail
import Derived.Shelf.Strconv.Clone
import Derived.Shelf.Strconv.SyntaxError
import Derived.Shelf.LaysC
import Derived.Shelf.Strconv.ToError
import Derived.Shelf.Strconv.Lower
import Derived.Shelf.Strconv.ParseUint10
import Derived.Shelf.Strconv.ParseUint10Empty
import Derived.Shelf.Strconv.ParseUint10Any
import Derived.Shelf.Strconv.ParseInt10
import Derived.Shelf.Strconv.AtoiLong
import Derived.Shelf.Strconv.AtoiInnerAll
import Derived.Shelf.Strconv.RangeError
import Derived.Shelf.Strconv.ToErrorRange
import Derived.Shelf.Strconv.AtoiAll
import Derived.Shelf.Strconv.ErrVarAll
import Derived.Ground.MpProg
import Derived.Shelf.Pu.ParseUintPublic10
import Derived.Shelf.Strings.Search1
import Derived.Shelf.Strings.Search2
import Derived.Shelf.Strings.Cut
import Derived.Shelf.Strings.Shaped
import Derived.Shelf.Strings.Prefix
import Derived.Shelf.Strings.Runes
import Derived.Shelf.Strings.AsciiSet
import Derived.Shelf.Bits.Mul64
import Derived.Shelf.Strings.Repeat
import Derived.Shelf.Unicode.DecodeSlow
import Derived.Test.YtbfikenbgfnfiaaGreatDoorProg
namespace Go.Proofs
open Go.Shelf
def Tryz.lays170_ren:Go.Shelf.Ren:=⟨fun | 170=>301 | n=>n,fun | 70=>336 | 3=>3 | 0=>0 | 72=>338 | 37=>120 | 5=>5 | n=>n,fun | n=>n⟩
theorem Tryz.lays170:Go.Proofs.Lays.n170 Tryz.prog Tryz.lays170_ren:={
 mixed:=by kernel_rfl
 f170:=Tryz.func301.trans (congrArg some (by kernel_rfl))
 t0:=Tryz.underlying0
 a0:=Tryz.isAgg0
 z0:=Tryz.sizeOf0
 v0:=Tryz.zeroValue0
 t3:=Tryz.underlying3
 a3:=Tryz.isAgg3
 z3:=Tryz.sizeOf3
 v3:=Tryz.zeroValue3
 t37:=Tryz.underlying120
 a37:=Tryz.isAgg120
 z37:=Tryz.sizeOf120
 v37:=Tryz.zeroValue120
 t70:=Tryz.underlying336
 a70:=Tryz.isAgg336
 z70:=Tryz.sizeOf336
 v70:=Tryz.zeroValue336
 t72:=Tryz.underlying338
 a72:=Tryz.isAgg338
 z72:=Tryz.sizeOf338
 v72:=Tryz.zeroValue338 }
def Tryz.lays169_ren:Go.Shelf.Ren:=⟨fun | 169=>302 | n=>n,fun | 70=>336 | 9=>9 | 0=>0 | 72=>338 | 37=>120 | 127=>385 | 3=>3 | 5=>5 | n=>n,fun | n=>n⟩
theorem Tryz.lays169:Go.Proofs.Lays.n169 Tryz.prog Tryz.lays169_ren:={
 mixed:=by kernel_rfl
 f169:=Tryz.func302.trans (congrArg some (by kernel_rfl))
 t0:=Tryz.underlying0
 a0:=Tryz.isAgg0
 z0:=Tryz.sizeOf0
 v0:=Tryz.zeroValue0
 t3:=Tryz.underlying3
 a3:=Tryz.isAgg3
 z3:=Tryz.sizeOf3
 v3:=Tryz.zeroValue3
 t9:=Tryz.underlying9
 a9:=Tryz.isAgg9
 z9:=Tryz.sizeOf9
 v9:=Tryz.zeroValue9
 t37:=Tryz.underlying120
 a37:=Tryz.isAgg120
 z37:=Tryz.sizeOf120
 v37:=Tryz.zeroValue120
 t70:=Tryz.underlying336
 a70:=Tryz.isAgg336
 z70:=Tryz.sizeOf336
 v70:=Tryz.zeroValue336
 t72:=Tryz.underlying338
 a72:=Tryz.isAgg338
 z72:=Tryz.sizeOf338
 v72:=Tryz.zeroValue338
 t127:=Tryz.underlying385
 a127:=Tryz.isAgg385
 z127:=Tryz.sizeOf385
 v127:=Tryz.zeroValue385 }
theorem Tryz.Builder_Extra_169:Builder.Extra Tryz.prog Tryz.lays169_ren:={
 sizeBuilder:=by kernel_rfl
 liesBuilder:=by kernel_rfl
 t5:=Tryz.underlying5
 a5:=Tryz.isAgg5
 z5:=Tryz.sizeOf5
 v5:=Tryz.zeroValue5
 infoByte:=by kernel_rfl
 cellsByte:=by kernel_rfl
 sizeByte:=by kernel_rfl
 neB5:=by decide }
def Tryz.lays160_ren:Go.Shelf.Ren:=⟨fun | 160=>219 | 232=>282 | 231=>281 | 227=>283 | 234=>285 | 233=>284 | 236=>287 | 235=>286 | 228=>341 | 271=>344 | 151=>343 | 197=>342 | 120=>377 | 152=>376 | 260=>375 | 137=>391 | 119=>392 | 224=>373 | 225=>372 | 217=>371 | 266=>389 | n=>n,fun | 9=>9 | 4=>4 | 3=>3 | 5=>5 | 117=>326 | 116=>325 | 0=>0 | 124=>329 | 21=>21 | 105=>373 | 46=>174 | 119=>416 | 139=>419 | 138=>418 | n=>n,fun | 3=>3 | 4=>4 | n=>n⟩
theorem Tryz.lays160:Go.Proofs.Lays.n160 Tryz.prog Tryz.lays160_ren:={
 mixed:=by kernel_rfl
 f119:=Tryz.func392.trans (congrArg some (by kernel_rfl))
 f120:=Tryz.func377.trans (congrArg some (by kernel_rfl))
 f137:=Tryz.func391.trans (congrArg some (by kernel_rfl))
 f151:=Tryz.func343.trans (congrArg some (by kernel_rfl))
 f152:=Tryz.func376.trans (congrArg some (by kernel_rfl))
 f160:=Tryz.func219.trans (congrArg some (by kernel_rfl))
 f197:=Tryz.func342.trans (congrArg some (by kernel_rfl))
 f217:=Tryz.func371.trans (congrArg some (by kernel_rfl))
 f224:=Tryz.func373.trans (congrArg some (by kernel_rfl))
 f225:=Tryz.func372.trans (congrArg some (by kernel_rfl))
 f227:=Tryz.func283.trans (congrArg some (by kernel_rfl))
 f228:=Tryz.func341.trans (congrArg some (by kernel_rfl))
 f231:=Tryz.func281.trans (congrArg some (by kernel_rfl))
 f232:=Tryz.func282.trans (congrArg some (by kernel_rfl))
 f233:=Tryz.func284.trans (congrArg some (by kernel_rfl))
 f234:=Tryz.func285.trans (congrArg some (by kernel_rfl))
 f235:=Tryz.func286.trans (congrArg some (by kernel_rfl))
 f236:=Tryz.func287.trans (congrArg some (by kernel_rfl))
 f260:=Tryz.func375.trans (congrArg some (by kernel_rfl))
 f266:=Tryz.func389.trans (congrArg some (by kernel_rfl))
 f271:=Tryz.func344.trans (congrArg some (by kernel_rfl))
 t0:=Tryz.underlying0
 a0:=Tryz.isAgg0
 z0:=Tryz.sizeOf0
 v0:=Tryz.zeroValue0
 t3:=Tryz.underlying3
 a3:=Tryz.isAgg3
 z3:=Tryz.sizeOf3
 v3:=Tryz.zeroValue3
 t4:=Tryz.underlying4
 a4:=Tryz.isAgg4
 z4:=Tryz.sizeOf4
 v4:=Tryz.zeroValue4
 t5:=Tryz.underlying5
 a5:=Tryz.isAgg5
 z5:=Tryz.sizeOf5
 v5:=Tryz.zeroValue5
 t9:=Tryz.underlying9
 a9:=Tryz.isAgg9
 z9:=Tryz.sizeOf9
 v9:=Tryz.zeroValue9
 t21:=Tryz.underlying21
 a21:=Tryz.isAgg21
 z21:=Tryz.sizeOf21
 v21:=Tryz.zeroValue21
 t46:=Tryz.underlying174
 a46:=Tryz.isAgg174
 z46:=Tryz.sizeOf174
 v46:=Tryz.zeroValue174
 t105:=Tryz.underlying373
 a105:=Tryz.isAgg373
 z105:=Tryz.sizeOf373
 v105:=Tryz.zeroValue373
 t116:=Tryz.underlying325
 a116:=Tryz.isAgg325
 z116:=Tryz.sizeOf325
 t117:=Tryz.underlying326
 a117:=Tryz.isAgg326
 z117:=Tryz.sizeOf326
 v117:=Tryz.zeroValue326
 t119:=Tryz.underlying416
 a119:=Tryz.isAgg416
 z119:=Tryz.sizeOf416
 t124:=Tryz.underlying329
 a124:=Tryz.isAgg329
 z124:=Tryz.sizeOf329
 v124:=Tryz.zeroValue329
 t138:=Tryz.underlying418
 a138:=Tryz.isAgg418
 z138:=Tryz.sizeOf418
 v138:=Tryz.zeroValue418
 t139:=Tryz.underlying419
 a139:=Tryz.isAgg419
 z139:=Tryz.sizeOf419
 v139:=Tryz.zeroValue419
 g3:=by kernel_rfl
 g4:=by kernel_rfl }
def Tryz.lays122_ren:Go.Shelf.Ren:=⟨fun | 122=>126 | 215=>203 | n=>n,fun | 3=>3 | 4=>4 | n=>n,fun | n=>n⟩
theorem Tryz.lays122:Go.Proofs.Lays.n122 Tryz.prog Tryz.lays122_ren:={
 mixed:=by kernel_rfl
 f122:=Tryz.func126.trans (congrArg some (by kernel_rfl))
 f215:=Tryz.func203.trans (congrArg some (by kernel_rfl))
 t3:=Tryz.underlying3
 a3:=Tryz.isAgg3
 z3:=Tryz.sizeOf3
 v3:=Tryz.zeroValue3
 t4:=Tryz.underlying4
 a4:=Tryz.isAgg4
 z4:=Tryz.sizeOf4
 v4:=Tryz.zeroValue4 }
open Go.RowKit in
theorem Tryz.cmp_Compare_int (x y:Int) (w:World) :
  Calls Tryz.prog 126 #[.int .i64 x,.int .i64 y] w fun e w'=>e=.returned (.int .i64 (Lib.compareInt x y))∧w' = w:=Any.cmp_Compare_int Tryz.lays122 x y w
open Go.RowKit in
theorem Tryz.Builder_Len_f (B b:Nat) (bs:List Value) (w:World) (h:Lib.IsBuilderF 338 5 B b bs w) :
  Calls Tryz.prog 301 #[.pointer (some ⟨b,0,none⟩)] w fun e w'=>e=.returned (.int .i64 bs.length)∧w' = w:=Any.Builder_Len_f Tryz.lays170 B b bs w h
open Go.RowKit in
theorem Tryz.Builder_String_any_k (B b:Nat) (l:List UInt8) (w:World) (h:Lib.IsBuilderF 338 5 B b (Lib.byteCells l) w) (hBw:B≤w.heap.size) :
  Calls Tryz.prog 302 #[.pointer (some ⟨b,0,none⟩)] w fun e w'=>e=.returned (.string ⟨l.toArray⟩)∧(Lib.IsBuilderF 338 5 B b (Lib.byteCells l) w'∧Below B w w'∧Lib.OthersKept 5 (some b) w w'):=Any.Builder_String_any_k Tryz.lays169 Tryz.Builder_Extra_169 B b l w h hBw
def Tryz.lays283_ren:Go.Shelf.Ren:=⟨fun | 283=>378 | n=>n,fun | 3=>3 | 9=>9 | 4=>4 | n=>n,fun | n=>n⟩
theorem Tryz.lays283:Go.Proofs.Lays.n283 Tryz.prog Tryz.lays283_ren:={
 mixed:=by kernel_rfl
 f283:=Tryz.func378.trans (congrArg some (by kernel_rfl))
 t3:=Tryz.underlying3
 a3:=Tryz.isAgg3
 z3:=Tryz.sizeOf3
 v3:=Tryz.zeroValue3
 t4:=Tryz.underlying4
 a4:=Tryz.isAgg4
 z4:=Tryz.sizeOf4
 v4:=Tryz.zeroValue4
 t9:=Tryz.underlying9
 a9:=Tryz.isAgg9
 z9:=Tryz.sizeOf9
 v9:=Tryz.zeroValue9 }
open Go.Lib in
theorem Tryz.internal_strconv_small (i:Nat) (h:i<100) (w:World) :
  Calls Tryz.prog 378 #[.int .i64 i] w fun e w'=>e=.returned (.string ⟨(Lib.decDigits i).toArray⟩)∧w' = w:=Any.internal_strconv_small Tryz.lays283 i h w
def Tryz.laysM284_ren:Go.Shelf.Ren:=⟨fun | 284=>379 | 129=>202 | 317=>393 | 318=>394 | n=>n,fun | 53=>260 | 3=>3 | 212=>422 | 0=>0 | 4=>4 | 46=>174 | 5=>5 | 9=>9 | n=>n,fun | 17=>5 | n=>n⟩
theorem Tryz.laysM284:Go.Proofs.LaysM.n284 Tryz.prog Tryz.laysM284_ren:={
 mixed:=by kernel_rfl
 f129:=Tryz.func202.trans (congrArg some (by kernel_rfl))
 f284:=Tryz.func379.trans (congrArg some (by kernel_rfl))
 f317:=Tryz.func393.trans (congrArg some (by kernel_rfl))
 f318:=Tryz.func394.trans (congrArg some (by kernel_rfl))
 t0:=Tryz.underlying0
 a0:=Tryz.isAgg0
 z0:=Tryz.sizeOf0
 v0:=Tryz.zeroValue0
 t3:=Tryz.underlying3
 a3:=Tryz.isAgg3
 z3:=Tryz.sizeOf3
 v3:=Tryz.zeroValue3
 t4:=Tryz.underlying4
 a4:=Tryz.isAgg4
 z4:=Tryz.sizeOf4
 v4:=Tryz.zeroValue4
 t5:=Tryz.underlying5
 a5:=Tryz.isAgg5
 z5:=Tryz.sizeOf5
 v5:=Tryz.zeroValue5
 t9:=Tryz.underlying9
 a9:=Tryz.isAgg9
 z9:=Tryz.sizeOf9
 v9:=Tryz.zeroValue9
 t46:=Tryz.underlying174
 a46:=Tryz.isAgg174
 z46:=Tryz.sizeOf174
 v46:=Tryz.zeroValue174
 t53:=Tryz.underlying260
 a53:=Tryz.isAgg260
 z53:=Tryz.sizeOf260
 v53:=Tryz.zeroValue260
 t212:=Tryz.underlying422
 a212:=Tryz.isAgg422
 z212:=Tryz.sizeOf422
 v212:=Tryz.zeroValue422
 g17:=by kernel_rfl
 i0:=by kernel_rfl
 i3:=by kernel_rfl
 i4:=by kernel_rfl
 i5:=by kernel_rfl
 i9:=by kernel_rfl
 i46:=by kernel_rfl
 i53:=by kernel_rfl
 i212:=by kernel_rfl
 m17:=by kernel_rfl }
open Go.Lib in
theorem Tryz.internal_strconv_numDigits (u : Nat) (h1 : 1 ≤ u) (h2 : u < 18446744073709551616) (w : World) (htab : Lib.TabIs Tryz.prog w "internal/strconv.uint64pow10" .u64 Lib.pow10Tab) :
  Calls Tryz.prog 379 #[.int .u64 u] w fun e w'=>e=.returned (.int .i64 (Lib.nDigits u))∧w' = w:=Any.internal_strconv_numDigits Tryz.laysM284 u h1 h2 w htab
def Tryz.lays285_ren:Go.Shelf.Ren:=⟨fun | 285=>380 | n=>n,fun | 37=>120 | 53=>260 | 3=>3 | 4=>4 | 51=>258 | 9=>9 | 5=>5 | 0=>0 | n=>n,fun | n=>n⟩
theorem Tryz.lays285:Go.Proofs.Lays.n285 Tryz.prog Tryz.lays285_ren:={
 mixed:=by kernel_rfl
 f285:=Tryz.func380.trans (congrArg some (by kernel_rfl))
 t0:=Tryz.underlying0
 a0:=Tryz.isAgg0
 z0:=Tryz.sizeOf0
 v0:=Tryz.zeroValue0
 t3:=Tryz.underlying3
 a3:=Tryz.isAgg3
 z3:=Tryz.sizeOf3
 v3:=Tryz.zeroValue3
 t4:=Tryz.underlying4
 a4:=Tryz.isAgg4
 z4:=Tryz.sizeOf4
 v4:=Tryz.zeroValue4
 t5:=Tryz.underlying5
 a5:=Tryz.isAgg5
 z5:=Tryz.sizeOf5
 v5:=Tryz.zeroValue5
 t9:=Tryz.underlying9
 a9:=Tryz.isAgg9
 z9:=Tryz.sizeOf9
 v9:=Tryz.zeroValue9
 t37:=Tryz.underlying120
 a37:=Tryz.isAgg120
 z37:=Tryz.sizeOf120
 v37:=Tryz.zeroValue120
 t51:=Tryz.underlying258
 a51:=Tryz.isAgg258
 z51:=Tryz.sizeOf258
 v51:=Tryz.zeroValue258
 t53:=Tryz.underlying260
 a53:=Tryz.isAgg260
 z53:=Tryz.sizeOf260
 v53:=Tryz.zeroValue260 }
open Go.RowKit Go.Sort Go.Lib in
theorem Tryz.internal_strconv_formatBase10 (blk off cap:Nat) (u:Nat) (d:Array UInt8) (w:World) (hH:Holds (fun (b:UInt8)=>Value.int .u8 (b.toNat:Int)) w blk off d) (hu:u<10 ^ d.size) (hu64:u<18446744073709551616) (hsz:d.size<4611686018427387904) :
  Calls Tryz.prog 380 #[.slice (some ⟨blk,off,none⟩) d.size cap,.int .u64 u] w fun e w' =>
   e=.returned (.tuple #[])∧∃ (n v':Nat) (dk:Array UInt8),w' = (putRow (fun (b:UInt8)=>Value.int .u8 (b.toNat:Int)) w blk off dk).drewN n∧FmtInv d.size u 0 v' dk:=Any.internal_strconv_formatBase10 Tryz.lays285 blk off cap u d w hH hu hu64 hsz
def Tryz.laysM171_ren:Go.Shelf.Ren:=⟨fun | 171=>225 | 243=>292 | 246=>349 | 283=>378 | 284=>379 | 285=>380 | 286=>381 | 129=>202 | 317=>393 | 318=>394 | 319=>395 | 320=>396 | 337=>398 | 338=>399 | n=>n,fun | 3=>3 | 9=>9 | 2=>2 | 4=>4 | 171=>400 | 0=>0 | 53=>260 | 37=>120 | 5=>5 | 173=>402 | 212=>422 | 51=>258 | 20=>20 | 213=>423 | 46=>174 | 232=>424 | 233=>425 | n=>n,fun | 17=>5 | 18=>6 | 19=>7 | n=>n⟩
theorem Tryz.laysM171:Go.Proofs.LaysM.n171 Tryz.prog Tryz.laysM171_ren:={
 mixed:=by kernel_rfl
 f129:=Tryz.func202.trans (congrArg some (by kernel_rfl))
 f171:=Tryz.func225.trans (congrArg some (by kernel_rfl))
 f243:=Tryz.func292.trans (congrArg some (by kernel_rfl))
 f246:=Tryz.func349.trans (congrArg some (by kernel_rfl))
 f283:=Tryz.func378.trans (congrArg some (by kernel_rfl))
 f284:=Tryz.func379.trans (congrArg some (by kernel_rfl))
 f285:=Tryz.func380.trans (congrArg some (by kernel_rfl))
 f286:=Tryz.func381.trans (congrArg some (by kernel_rfl))
 f317:=Tryz.func393.trans (congrArg some (by kernel_rfl))
 f318:=Tryz.func394.trans (congrArg some (by kernel_rfl))
 f319:=Tryz.func395.trans (congrArg some (by kernel_rfl))
 f320:=Tryz.func396.trans (congrArg some (by kernel_rfl))
 f337:=Tryz.func398.trans (congrArg some (by kernel_rfl))
 f338:=Tryz.func399.trans (congrArg some (by kernel_rfl))
 t0:=Tryz.underlying0
 a0:=Tryz.isAgg0
 z0:=Tryz.sizeOf0
 v0:=Tryz.zeroValue0
 t2:=Tryz.underlying2
 a2:=Tryz.isAgg2
 z2:=Tryz.sizeOf2
 v2:=Tryz.zeroValue2
 t3:=Tryz.underlying3
 a3:=Tryz.isAgg3
 z3:=Tryz.sizeOf3
 v3:=Tryz.zeroValue3
 t4:=Tryz.underlying4
 a4:=Tryz.isAgg4
 z4:=Tryz.sizeOf4
 v4:=Tryz.zeroValue4
 t5:=Tryz.underlying5
 a5:=Tryz.isAgg5
 z5:=Tryz.sizeOf5
 v5:=Tryz.zeroValue5
 t9:=Tryz.underlying9
 a9:=Tryz.isAgg9
 z9:=Tryz.sizeOf9
 v9:=Tryz.zeroValue9
 t20:=Tryz.underlying20
 a20:=Tryz.isAgg20
 z20:=Tryz.sizeOf20
 v20:=Tryz.zeroValue20
 t37:=Tryz.underlying120
 a37:=Tryz.isAgg120
 z37:=Tryz.sizeOf120
 v37:=Tryz.zeroValue120
 t46:=Tryz.underlying174
 a46:=Tryz.isAgg174
 z46:=Tryz.sizeOf174
 v46:=Tryz.zeroValue174
 t51:=Tryz.underlying258
 a51:=Tryz.isAgg258
 z51:=Tryz.sizeOf258
 v51:=Tryz.zeroValue258
 t53:=Tryz.underlying260
 a53:=Tryz.isAgg260
 z53:=Tryz.sizeOf260
 v53:=Tryz.zeroValue260
 t171:=Tryz.underlying400
 a171:=Tryz.isAgg400
 z171:=Tryz.sizeOf400
 v171:=Tryz.zeroValue400
 t173:=Tryz.underlying402
 a173:=Tryz.isAgg402
 z173:=Tryz.sizeOf402
 v173:=Tryz.zeroValue402
 t212:=Tryz.underlying422
 a212:=Tryz.isAgg422
 z212:=Tryz.sizeOf422
 v212:=Tryz.zeroValue422
 t213:=Tryz.underlying423
 a213:=Tryz.isAgg423
 z213:=Tryz.sizeOf423
 t232:=Tryz.underlying424
 a232:=Tryz.isAgg424
 z232:=Tryz.sizeOf424
 v232:=Tryz.zeroValue424
 t233:=Tryz.underlying425
 a233:=Tryz.isAgg425
 z233:=Tryz.sizeOf425
 v233:=Tryz.zeroValue425
 g17:=by kernel_rfl
 g18:=by kernel_rfl
 g19:=by kernel_rfl
 i0:=by kernel_rfl
 i2:=by kernel_rfl
 i3:=by kernel_rfl
 i4:=by kernel_rfl
 i5:=by kernel_rfl
 i9:=by kernel_rfl
 i20:=by kernel_rfl
 i37:=by kernel_rfl
 i46:=by kernel_rfl
 i51:=by kernel_rfl
 i53:=by kernel_rfl
 i171:=by kernel_rfl
 i173:=by kernel_rfl
 i212:=by kernel_rfl
 i232:=by kernel_rfl
 i233:=by kernel_rfl
 m17:=by kernel_rfl
 m18:=by kernel_rfl
 m19:=by kernel_rfl }
open Go.RowKit Go.Sort Go.Lib in
theorem Tryz.strconv_Itoa (n : Int) (h0 : -9223372036854775808 ≤ n) (h1 : n ≤ 9223372036854775807) (w : World) (htab : Lib.TabIs Tryz.prog w "internal/strconv.uint64pow10" .u64 Lib.pow10Tab) :
  Calls Tryz.prog 225 #[.int .i64 n] w fun e w'=>e=.returned (.string ⟨(Lib.itoa n).toArray⟩)∧∃ k os,w' = grow (w.drewN k) os:=Any.strconv_Itoa Tryz.laysM171 n h0 h1 w htab
def Tryz.laysC172_ren:Go.Shelf.Ren:=⟨fun | 172=>163 | 244=>237 | 245=>238 | 247=>308 | 279=>309 | 280=>310 | 281=>311 | 282=>312 | 287=>359 | 316=>360 | 171=>225 | 205=>361 | 321=>386 | 322=>387 | 243=>292 | 246=>349 | 283=>378 | 284=>379 | 285=>380 | 286=>381 | 129=>202 | 317=>393 | 318=>394 | 319=>395 | 320=>396 | 337=>398 | 338=>399 | n=>n,fun | 9=>9 | 3=>3 | 75=>227 | 76=>228 | 4=>4 | 5=>5 | 167=>350 | 37=>120 | 0=>0 | 85=>351 | 2=>2 | 168=>353 | 53=>260 | 175=>387 | 46=>174 | 210=>391 | 127=>385 | 145=>413 | 143=>411 | 21=>21 | 171=>400 | 173=>402 | 212=>422 | 51=>258 | 20=>20 | 213=>423 | 232=>424 | 233=>425 | 80=>344 | n=>n,fun | 15=>0 | 16=>1 | 17=>5 | 18=>6 | 19=>7 | n=>n⟩
theorem Tryz.laysC172:Go.Proofs.LaysC.n172 Tryz.prog Tryz.laysC172_ren:={
 mixed:=by kernel_rfl
 f129:=Tryz.func202.trans (congrArg some (by kernel_rfl))
 f171:=Tryz.func225.trans (congrArg some (by kernel_rfl))
 f172:=Tryz.func163.trans (congrArg some (by kernel_rfl))
 f205:=Tryz.func361.trans (congrArg some (by kernel_rfl))
 f243:=Tryz.func292.trans (congrArg some (by kernel_rfl))
 f244:=Tryz.func237.trans (congrArg some (by kernel_rfl))
 f245:=Tryz.func238.trans (congrArg some (by kernel_rfl))
 f246:=Tryz.func349.trans (congrArg some (by kernel_rfl))
 f247:=Tryz.func308.trans (congrArg some (by kernel_rfl))
 f279:=Tryz.func309.trans (congrArg some (by kernel_rfl))
 f280:=Tryz.func310.trans (congrArg some (by kernel_rfl))
 f281:=Tryz.func311.trans (congrArg some (by kernel_rfl))
 f282:=Tryz.func312.trans (congrArg some (by kernel_rfl))
 f283:=Tryz.func378.trans (congrArg some (by kernel_rfl))
 f284:=Tryz.func379.trans (congrArg some (by kernel_rfl))
 f285:=Tryz.func380.trans (congrArg some (by kernel_rfl))
 f286:=Tryz.func381.trans (congrArg some (by kernel_rfl))
 f287:=Tryz.func359.trans (congrArg some (by kernel_rfl))
 f316:=Tryz.func360.trans (congrArg some (by kernel_rfl))
 f317:=Tryz.func393.trans (congrArg some (by kernel_rfl))
 f318:=Tryz.func394.trans (congrArg some (by kernel_rfl))
 f319:=Tryz.func395.trans (congrArg some (by kernel_rfl))
 f320:=Tryz.func396.trans (congrArg some (by kernel_rfl))
 f321:=Tryz.func386.trans (congrArg some (by kernel_rfl))
 f322:=Tryz.func387.trans (congrArg some (by kernel_rfl))
 f337:=Tryz.func398.trans (congrArg some (by kernel_rfl))
 f338:=Tryz.func399.trans (congrArg some (by kernel_rfl))
 t0:=Tryz.underlying0
 a0:=Tryz.isAgg0
 z0:=Tryz.sizeOf0
 v0:=Tryz.zeroValue0
 t2:=Tryz.underlying2
 a2:=Tryz.isAgg2
 z2:=Tryz.sizeOf2
 v2:=Tryz.zeroValue2
 t3:=Tryz.underlying3
 a3:=Tryz.isAgg3
 z3:=Tryz.sizeOf3
 v3:=Tryz.zeroValue3
 t4:=Tryz.underlying4
 a4:=Tryz.isAgg4
 z4:=Tryz.sizeOf4
 v4:=Tryz.zeroValue4
 t5:=Tryz.underlying5
 a5:=Tryz.isAgg5
 z5:=Tryz.sizeOf5
 v5:=Tryz.zeroValue5
 t9:=Tryz.underlying9
 a9:=Tryz.isAgg9
 z9:=Tryz.sizeOf9
 v9:=Tryz.zeroValue9
 t20:=Tryz.underlying20
 a20:=Tryz.isAgg20
 z20:=Tryz.sizeOf20
 v20:=Tryz.zeroValue20
 t21:=Tryz.underlying21
 a21:=Tryz.isAgg21
 z21:=Tryz.sizeOf21
 v21:=Tryz.zeroValue21
 t37:=Tryz.underlying120
 a37:=Tryz.isAgg120
 z37:=Tryz.sizeOf120
 v37:=Tryz.zeroValue120
 t46:=Tryz.underlying174
 a46:=Tryz.isAgg174
 z46:=Tryz.sizeOf174
 v46:=Tryz.zeroValue174
 t51:=Tryz.underlying258
 a51:=Tryz.isAgg258
 z51:=Tryz.sizeOf258
 v51:=Tryz.zeroValue258
 t53:=Tryz.underlying260
 a53:=Tryz.isAgg260
 z53:=Tryz.sizeOf260
 v53:=Tryz.zeroValue260
 t75:=Tryz.underlying227
 a75:=Tryz.isAgg227
 z75:=Tryz.sizeOf227
 v75:=Tryz.zeroValue227
 t76:=Tryz.underlying228
 a76:=Tryz.isAgg228
 z76:=Tryz.sizeOf228
 v76:=Tryz.zeroValue228
 t85:=Tryz.underlying351
 a85:=Tryz.isAgg351
 z85:=Tryz.sizeOf351
 v85:=Tryz.zeroValue351
 t127:=Tryz.underlying385
 a127:=Tryz.isAgg385
 z127:=Tryz.sizeOf385
 v127:=Tryz.zeroValue385
 t143:=Tryz.underlying411
 a143:=Tryz.isAgg411
 z143:=Tryz.sizeOf411
 v143:=Tryz.zeroValue411
 t145:=Tryz.underlying413
 a145:=Tryz.isAgg413
 z145:=Tryz.sizeOf413
 v145:=Tryz.zeroValue413
 t167:=Tryz.underlying350
 a167:=Tryz.isAgg350
 z167:=Tryz.sizeOf350
 v167:=Tryz.zeroValue350
 t168:=Tryz.underlying353
 a168:=Tryz.isAgg353
 z168:=Tryz.sizeOf353
 v168:=Tryz.zeroValue353
 t171:=Tryz.underlying400
 a171:=Tryz.isAgg400
 z171:=Tryz.sizeOf400
 v171:=Tryz.zeroValue400
 t173:=Tryz.underlying402
 a173:=Tryz.isAgg402
 z173:=Tryz.sizeOf402
 v173:=Tryz.zeroValue402
 t175:=Tryz.underlying387
 a175:=Tryz.isAgg387
 z175:=Tryz.sizeOf387
 v175:=Tryz.zeroValue387
 t210:=Tryz.underlying391
 a210:=Tryz.isAgg391
 z210:=Tryz.sizeOf391
 v210:=Tryz.zeroValue391
 t212:=Tryz.underlying422
 a212:=Tryz.isAgg422
 z212:=Tryz.sizeOf422
 v212:=Tryz.zeroValue422
 t213:=Tryz.underlying423
 a213:=Tryz.isAgg423
 z213:=Tryz.sizeOf423
 t232:=Tryz.underlying424
 a232:=Tryz.isAgg424
 z232:=Tryz.sizeOf424
 v232:=Tryz.zeroValue424
 t233:=Tryz.underlying425
 a233:=Tryz.isAgg425
 z233:=Tryz.sizeOf425
 v233:=Tryz.zeroValue425
 g15:=by kernel_rfl
 g16:=by kernel_rfl
 g17:=by kernel_rfl
 g18:=by kernel_rfl
 g19:=by kernel_rfl
 t80:=Tryz.underlying344
 a80:=Tryz.isAgg344
 z80:=Tryz.sizeOf344
 v80:=Tryz.zeroValue344
 i0:=by kernel_rfl
 i2:=by kernel_rfl
 i3:=by kernel_rfl
 i4:=by kernel_rfl
 i5:=by kernel_rfl
 i9:=by kernel_rfl
 i20:=by kernel_rfl
 i21:=by kernel_rfl
 i37:=by kernel_rfl
 i46:=by kernel_rfl
 i51:=by kernel_rfl
 i53:=by kernel_rfl
 i75:=by kernel_rfl
 i76:=by kernel_rfl
 i80:=by kernel_rfl
 i85:=by kernel_rfl
 i127:=by kernel_rfl
 i143:=by kernel_rfl
 i145:=by kernel_rfl
 i167:=by kernel_rfl
 i168:=by kernel_rfl
 i171:=by kernel_rfl
 i173:=by kernel_rfl
 i175:=by kernel_rfl
 i210:=by kernel_rfl
 i212:=by kernel_rfl
 i232:=by kernel_rfl
 i233:=by kernel_rfl
 m15:=by kernel_rfl
 m16:=by kernel_rfl
 m17:=by kernel_rfl
 m18:=by kernel_rfl
 m19:=by kernel_rfl
 c0:=by kernel_rfl
 c2:=by kernel_rfl
 c3:=by kernel_rfl
 c4:=by kernel_rfl
 c5:=by kernel_rfl
 c9:=by kernel_rfl
 c20:=by kernel_rfl
 c21:=by kernel_rfl
 c37:=by kernel_rfl
 c46:=by kernel_rfl
 c51:=by kernel_rfl
 c53:=by kernel_rfl
 c75:=by kernel_rfl
 c76:=by kernel_rfl
 c80:=by kernel_rfl
 c85:=by kernel_rfl
 c127:=by kernel_rfl
 c143:=by kernel_rfl
 c145:=by kernel_rfl
 c167:=by kernel_rfl
 c168:=by kernel_rfl
 c171:=by kernel_rfl
 c173:=by kernel_rfl
 c175:=by kernel_rfl
 c210:=by kernel_rfl
 c212:=by kernel_rfl
 c213:=by kernel_rfl
 c232:=by kernel_rfl
 c233:=by kernel_rfl }
open Go.RowKit in
theorem Tryz.strconv_Atoi_ok (s:ByteArray) (hmax:s.size≤9223372036854775806) (v:Int) (h:Lib.atoiAll s.data.toList=.ok v) (w:World) :
  Calls Tryz.prog 163 #[.string s] w fun e w'=>e=.returned (.tuple #[.int .i64 v,.nilIface])∧(w' = w∨∃ t,w' = Lib.bytesWorld w 5 t):=Any.strconv_Atoi_ok Tryz.laysC172 s hmax v h w
open Go.RowKit in
theorem Tryz.strconv_Atoi_range_var (s : ByteArray) (hlim : s.size ≤ 281474976710656) (h : Lib.atoiAll s.data.toList = .range) (tp : TypeId) (p : Value) (w : World) (hvar : w.var? Tryz.prog "strconv.ErrRange" = some #[.iface tp p]) :
  Calls Tryz.prog 163 #[.string s] w fun e w'=>∃ N,e=.returned (.tuple #[.int .i64 (Lib.atoiSat s.data.toList),.iface 353 (.pointer (some ⟨N,0,none⟩))])∧w.heap.size≤N∧w'.heap[N]? = some (.cells #[.string ⟨#[65,116,111,105]⟩,.string s,.iface tp p] 391 (0,0))∧Below w.heap.size w w':=Any.strconv_Atoi_range_var Tryz.laysC172 s hlim h tp p w hvar
def Tryz.laysPu14_ren:Go.Shelf.Ren:=⟨fun | 14=>357 | 16=>359 | 17=>238 | 19=>386 | 20=>387 | 21=>309 | 22=>310 | 23=>311 | 24=>312 | 25=>360 | 27=>225 | 26=>361 | 28=>292 | 29=>349 | 30=>378 | 31=>379 | 32=>380 | 33=>381 | 35=>202 | 34=>393 | 36=>394 | 37=>395 | 38=>396 | 39=>398 | 40=>399 | n=>n,fun | 9=>9 | 3=>3 | 22=>260 | 24=>227 | 25=>387 | 4=>4 | 34=>350 | 5=>5 | 36=>174 | 37=>120 | 0=>0 | 39=>353 | 21=>21 | 44=>391 | 47=>385 | 50=>413 | 48=>411 | 2=>2 | 52=>400 | 55=>402 | 59=>422 | 60=>258 | 20=>20 | 61=>423 | 65=>424 | 66=>425 | 67=>344 | n=>n,fun | 0=>0 | 1=>1 | 2=>5 | 3=>6 | 4=>7 | n=>n⟩
theorem Tryz.laysPu14:Go.Proofs.LaysPu.n14 Tryz.prog Tryz.laysPu14_ren:={
 mixed:=by kernel_rfl
 f14:=Tryz.func357.trans (congrArg some (by kernel_rfl))
 f16:=Tryz.func359.trans (congrArg some (by kernel_rfl))
 f17:=Tryz.func238.trans (congrArg some (by kernel_rfl))
 f19:=Tryz.func386.trans (congrArg some (by kernel_rfl))
 f20:=Tryz.func387.trans (congrArg some (by kernel_rfl))
 f21:=Tryz.func309.trans (congrArg some (by kernel_rfl))
 f22:=Tryz.func310.trans (congrArg some (by kernel_rfl))
 f23:=Tryz.func311.trans (congrArg some (by kernel_rfl))
 f24:=Tryz.func312.trans (congrArg some (by kernel_rfl))
 f25:=Tryz.func360.trans (congrArg some (by kernel_rfl))
 f26:=Tryz.func361.trans (congrArg some (by kernel_rfl))
 f27:=Tryz.func225.trans (congrArg some (by kernel_rfl))
 f28:=Tryz.func292.trans (congrArg some (by kernel_rfl))
 f29:=Tryz.func349.trans (congrArg some (by kernel_rfl))
 f30:=Tryz.func378.trans (congrArg some (by kernel_rfl))
 f31:=Tryz.func379.trans (congrArg some (by kernel_rfl))
 f32:=Tryz.func380.trans (congrArg some (by kernel_rfl))
 f33:=Tryz.func381.trans (congrArg some (by kernel_rfl))
 f34:=Tryz.func393.trans (congrArg some (by kernel_rfl))
 f35:=Tryz.func202.trans (congrArg some (by kernel_rfl))
 f36:=Tryz.func394.trans (congrArg some (by kernel_rfl))
 f37:=Tryz.func395.trans (congrArg some (by kernel_rfl))
 f38:=Tryz.func396.trans (congrArg some (by kernel_rfl))
 f39:=Tryz.func398.trans (congrArg some (by kernel_rfl))
 f40:=Tryz.func399.trans (congrArg some (by kernel_rfl))
 t0:=Tryz.underlying0
 a0:=Tryz.isAgg0
 z0:=Tryz.sizeOf0
 v0:=Tryz.zeroValue0
 i0:=by kernel_rfl
 t2:=Tryz.underlying2
 a2:=Tryz.isAgg2
 z2:=Tryz.sizeOf2
 v2:=Tryz.zeroValue2
 i2:=by kernel_rfl
 t3:=Tryz.underlying3
 a3:=Tryz.isAgg3
 z3:=Tryz.sizeOf3
 v3:=Tryz.zeroValue3
 i3:=by kernel_rfl
 t4:=Tryz.underlying4
 a4:=Tryz.isAgg4
 z4:=Tryz.sizeOf4
 v4:=Tryz.zeroValue4
 i4:=by kernel_rfl
 t5:=Tryz.underlying5
 a5:=Tryz.isAgg5
 z5:=Tryz.sizeOf5
 v5:=Tryz.zeroValue5
 i5:=by kernel_rfl
 t9:=Tryz.underlying9
 a9:=Tryz.isAgg9
 z9:=Tryz.sizeOf9
 v9:=Tryz.zeroValue9
 i9:=by kernel_rfl
 t20:=Tryz.underlying20
 a20:=Tryz.isAgg20
 z20:=Tryz.sizeOf20
 v20:=Tryz.zeroValue20
 i20:=by kernel_rfl
 t21:=Tryz.underlying21
 a21:=Tryz.isAgg21
 z21:=Tryz.sizeOf21
 v21:=Tryz.zeroValue21
 i21:=by kernel_rfl
 t22:=Tryz.underlying260
 a22:=Tryz.isAgg260
 z22:=Tryz.sizeOf260
 v22:=Tryz.zeroValue260
 i22:=by kernel_rfl
 t24:=Tryz.underlying227
 a24:=Tryz.isAgg227
 z24:=Tryz.sizeOf227
 v24:=Tryz.zeroValue227
 i24:=by kernel_rfl
 t25:=Tryz.underlying387
 a25:=Tryz.isAgg387
 z25:=Tryz.sizeOf387
 v25:=Tryz.zeroValue387
 i25:=by kernel_rfl
 t34:=Tryz.underlying350
 a34:=Tryz.isAgg350
 z34:=Tryz.sizeOf350
 v34:=Tryz.zeroValue350
 i34:=by kernel_rfl
 c34:=by kernel_rfl
 t36:=Tryz.underlying174
 a36:=Tryz.isAgg174
 z36:=Tryz.sizeOf174
 v36:=Tryz.zeroValue174
 i36:=by kernel_rfl
 t37:=Tryz.underlying120
 a37:=Tryz.isAgg120
 z37:=Tryz.sizeOf120
 v37:=Tryz.zeroValue120
 i37:=by kernel_rfl
 t39:=Tryz.underlying353
 a39:=Tryz.isAgg353
 z39:=Tryz.sizeOf353
 v39:=Tryz.zeroValue353
 i39:=by kernel_rfl
 t44:=Tryz.underlying391
 a44:=Tryz.isAgg391
 z44:=Tryz.sizeOf391
 v44:=Tryz.zeroValue391
 i44:=by kernel_rfl
 t47:=Tryz.underlying385
 a47:=Tryz.isAgg385
 z47:=Tryz.sizeOf385
 v47:=Tryz.zeroValue385
 i47:=by kernel_rfl
 t48:=Tryz.underlying411
 a48:=Tryz.isAgg411
 z48:=Tryz.sizeOf411
 v48:=Tryz.zeroValue411
 i48:=by kernel_rfl
 t50:=Tryz.underlying413
 a50:=Tryz.isAgg413
 z50:=Tryz.sizeOf413
 v50:=Tryz.zeroValue413
 i50:=by kernel_rfl
 t52:=Tryz.underlying400
 a52:=Tryz.isAgg400
 z52:=Tryz.sizeOf400
 v52:=Tryz.zeroValue400
 i52:=by kernel_rfl
 t55:=Tryz.underlying402
 a55:=Tryz.isAgg402
 z55:=Tryz.sizeOf402
 v55:=Tryz.zeroValue402
 i55:=by kernel_rfl
 t59:=Tryz.underlying422
 a59:=Tryz.isAgg422
 z59:=Tryz.sizeOf422
 v59:=Tryz.zeroValue422
 i59:=by kernel_rfl
 t60:=Tryz.underlying258
 a60:=Tryz.isAgg258
 z60:=Tryz.sizeOf258
 v60:=Tryz.zeroValue258
 i60:=by kernel_rfl
 t61:=Tryz.underlying423
 a61:=Tryz.isAgg423
 z61:=Tryz.sizeOf423
 t65:=Tryz.underlying424
 a65:=Tryz.isAgg424
 z65:=Tryz.sizeOf424
 v65:=Tryz.zeroValue424
 i65:=by kernel_rfl
 t66:=Tryz.underlying425
 a66:=Tryz.isAgg425
 z66:=Tryz.sizeOf425
 v66:=Tryz.zeroValue425
 i66:=by kernel_rfl
 t67:=Tryz.underlying344
 a67:=Tryz.isAgg344
 z67:=Tryz.sizeOf344
 v67:=Tryz.zeroValue344
 i67:=by kernel_rfl
 g0:=by kernel_rfl
 m0:=by kernel_rfl
 g1:=by kernel_rfl
 m1:=by kernel_rfl
 g2:=by kernel_rfl
 m2:=by kernel_rfl
 g3:=by kernel_rfl
 m3:=by kernel_rfl
 g4:=by kernel_rfl
 m4:=by kernel_rfl }
open Go.RowKit in
theorem Tryz.strconv_ParseUint_10_at64_ok (s:ByteArray) (hmax:s.size≤9223372036854775806) (u:Nat) (h:Lib.parseUintB 64 s.data.toList=.ok u) (w:World) :
  Calls Tryz.prog 357 #[.string s,.int .i64 10,.int .i64 64] w fun e w'=>e=.returned (.tuple #[.int .u64 u,.nilIface])∧(w' = w∨w' = Lib.bytesWorld w 5 s):=Any.strconv_ParseUint_10_at64_ok Tryz.laysPu14 s hmax u h w
def Tryz.lays219_ren:Go.Shelf.Ren:=⟨fun | 219=>340 | 217=>371 | 225=>372 | 224=>373 | 267=>374 | 266=>389 | 314=>390 | n=>n,fun | 9=>9 | 3=>3 | 4=>4 | 5=>5 | 46=>174 | 146=>406 | 51=>258 | n=>n,fun | 1=>2 | n=>n⟩
theorem Tryz.lays219:Go.Proofs.Lays.n219 Tryz.prog Tryz.lays219_ren:={
 mixed:=by kernel_rfl
 f217:=Tryz.func371.trans (congrArg some (by kernel_rfl))
 f219:=Tryz.func340.trans (congrArg some (by kernel_rfl))
 f224:=Tryz.func373.trans (congrArg some (by kernel_rfl))
 f225:=Tryz.func372.trans (congrArg some (by kernel_rfl))
 f266:=Tryz.func389.trans (congrArg some (by kernel_rfl))
 f267:=Tryz.func374.trans (congrArg some (by kernel_rfl))
 f314:=Tryz.func390.trans (congrArg some (by kernel_rfl))
 t3:=Tryz.underlying3
 a3:=Tryz.isAgg3
 z3:=Tryz.sizeOf3
 v3:=Tryz.zeroValue3
 t4:=Tryz.underlying4
 a4:=Tryz.isAgg4
 z4:=Tryz.sizeOf4
 v4:=Tryz.zeroValue4
 t5:=Tryz.underlying5
 a5:=Tryz.isAgg5
 z5:=Tryz.sizeOf5
 v5:=Tryz.zeroValue5
 t9:=Tryz.underlying9
 a9:=Tryz.isAgg9
 z9:=Tryz.sizeOf9
 v9:=Tryz.zeroValue9
 t46:=Tryz.underlying174
 a46:=Tryz.isAgg174
 z46:=Tryz.sizeOf174
 v46:=Tryz.zeroValue174
 t51:=Tryz.underlying258
 a51:=Tryz.isAgg258
 z51:=Tryz.sizeOf258
 v51:=Tryz.zeroValue258
 t146:=Tryz.underlying406
 a146:=Tryz.isAgg406
 z146:=Tryz.sizeOf406
 v146:=Tryz.zeroValue406
 g1:=by kernel_rfl }
open Go.RowKit Go.Lib in
theorem Tryz.stringslite_Index_one (s:ByteArray) (c:UInt8) (w:World) :
  Calls Tryz.prog 340 #[.string s,.string ⟨#[c]⟩] w fun e w'=>e=.returned (.int .i64 (Lib.indexByte s.data.toList c))∧w' = w:=Any.stringslite_Index_one Tryz.lays219 s c w
def Tryz.lays99_ren:Go.Shelf.Ren:=⟨fun | 99=>152 | 206=>222 | n=>n,fun | 9=>9 | 4=>4 | 3=>3 | n=>n,fun | n=>n⟩
theorem Tryz.lays99:Go.Proofs.Lays.n99 Tryz.prog Tryz.lays99_ren:={
 mixed:=by kernel_rfl
 f99:=Tryz.func152.trans (congrArg some (by kernel_rfl))
 f206:=Tryz.func222.trans (congrArg some (by kernel_rfl))
 t3:=Tryz.underlying3
 a3:=Tryz.isAgg3
 z3:=Tryz.sizeOf3
 v3:=Tryz.zeroValue3
 t4:=Tryz.underlying4
 a4:=Tryz.isAgg4
 z4:=Tryz.sizeOf4
 v4:=Tryz.zeroValue4
 t9:=Tryz.underlying9
 a9:=Tryz.isAgg9
 z9:=Tryz.sizeOf9
 v9:=Tryz.zeroValue9 }
open Go.RowKit Go.Lib in
theorem Tryz.strings_HasPrefix (s p:ByteArray) (w:World) :
  Calls Tryz.prog 152 #[.string s,.string p] w fun e w'=>e=.returned (.bool (Lib.hasPrefix s.data.toList p.data.toList))∧w' = w:=Any.strings_HasPrefix Tryz.lays99 s p w
def Tryz.lays101_ren:Go.Shelf.Ren:=⟨fun | 101=>220 | 208=>288 | 206=>222 | n=>n,fun | 9=>9 | 4=>4 | 3=>3 | n=>n,fun | n=>n⟩
theorem Tryz.lays101:Go.Proofs.Lays.n101 Tryz.prog Tryz.lays101_ren:={
 mixed:=by kernel_rfl
 f101:=Tryz.func220.trans (congrArg some (by kernel_rfl))
 f206:=Tryz.func222.trans (congrArg some (by kernel_rfl))
 f208:=Tryz.func288.trans (congrArg some (by kernel_rfl))
 t3:=Tryz.underlying3
 a3:=Tryz.isAgg3
 z3:=Tryz.sizeOf3
 v3:=Tryz.zeroValue3
 t4:=Tryz.underlying4
 a4:=Tryz.isAgg4
 z4:=Tryz.sizeOf4
 v4:=Tryz.zeroValue4
 t9:=Tryz.underlying9
 a9:=Tryz.isAgg9
 z9:=Tryz.sizeOf9
 v9:=Tryz.zeroValue9 }
open Go.RowKit Go.Lib in
theorem Tryz.strings_TrimPrefix (s p:ByteArray) (w:World) :
  Calls Tryz.prog 220 #[.string s,.string p] w fun e w'=>e=.returned (.string ⟨(Lib.trimPrefix s.data.toList p.data.toList).toArray⟩)∧w' = w:=Any.strings_TrimPrefix Tryz.lays101 s p w
def Tryz.lays105_ren:Go.Shelf.Ren:=⟨fun | 105=>300 | 212=>354 | 99=>152 | 165=>355 | 166=>299 | 170=>301 | 169=>302 | 263=>383 | 264=>384 | 206=>222 | 240=>353 | 241=>385 | 276=>382 | 277=>397 | n=>n,fun | 9=>9 | 3=>3 | 4=>4 | 20=>20 | 0=>0 | 46=>174 | 109=>382 | 5=>5 | 72=>338 | 76=>228 | 51=>258 | 146=>406 | 53=>260 | 148=>408 | 70=>336 | 37=>120 | 75=>227 | 127=>385 | 164=>404 | 80=>344 | n=>n,fun | n=>n⟩
theorem Tryz.lays105:Go.Proofs.Lays.n105 Tryz.prog Tryz.lays105_ren:={
 mixed:=by kernel_rfl
 f99:=Tryz.func152.trans (congrArg some (by kernel_rfl))
 f105:=Tryz.func300.trans (congrArg some (by kernel_rfl))
 f165:=Tryz.func355.trans (congrArg some (by kernel_rfl))
 f166:=Tryz.func299.trans (congrArg some (by kernel_rfl))
 f169:=Tryz.func302.trans (congrArg some (by kernel_rfl))
 f170:=Tryz.func301.trans (congrArg some (by kernel_rfl))
 f206:=Tryz.func222.trans (congrArg some (by kernel_rfl))
 f212:=Tryz.func354.trans (congrArg some (by kernel_rfl))
 f240:=Tryz.func353.trans (congrArg some (by kernel_rfl))
 f241:=Tryz.func385.trans (congrArg some (by kernel_rfl))
 f263:=Tryz.func383.trans (congrArg some (by kernel_rfl))
 f264:=Tryz.func384.trans (congrArg some (by kernel_rfl))
 f276:=Tryz.func382.trans (congrArg some (by kernel_rfl))
 f277:=Tryz.func397.trans (congrArg some (by kernel_rfl))
 t0:=Tryz.underlying0
 a0:=Tryz.isAgg0
 z0:=Tryz.sizeOf0
 v0:=Tryz.zeroValue0
 t3:=Tryz.underlying3
 a3:=Tryz.isAgg3
 z3:=Tryz.sizeOf3
 v3:=Tryz.zeroValue3
 t4:=Tryz.underlying4
 a4:=Tryz.isAgg4
 z4:=Tryz.sizeOf4
 v4:=Tryz.zeroValue4
 t5:=Tryz.underlying5
 a5:=Tryz.isAgg5
 z5:=Tryz.sizeOf5
 v5:=Tryz.zeroValue5
 t9:=Tryz.underlying9
 a9:=Tryz.isAgg9
 z9:=Tryz.sizeOf9
 v9:=Tryz.zeroValue9
 t20:=Tryz.underlying20
 a20:=Tryz.isAgg20
 z20:=Tryz.sizeOf20
 v20:=Tryz.zeroValue20
 t37:=Tryz.underlying120
 a37:=Tryz.isAgg120
 z37:=Tryz.sizeOf120
 v37:=Tryz.zeroValue120
 t46:=Tryz.underlying174
 a46:=Tryz.isAgg174
 z46:=Tryz.sizeOf174
 v46:=Tryz.zeroValue174
 t51:=Tryz.underlying258
 a51:=Tryz.isAgg258
 z51:=Tryz.sizeOf258
 v51:=Tryz.zeroValue258
 t53:=Tryz.underlying260
 a53:=Tryz.isAgg260
 z53:=Tryz.sizeOf260
 v53:=Tryz.zeroValue260
 t70:=Tryz.underlying336
 a70:=Tryz.isAgg336
 z70:=Tryz.sizeOf336
 v70:=Tryz.zeroValue336
 t72:=Tryz.underlying338
 a72:=Tryz.isAgg338
 z72:=Tryz.sizeOf338
 v72:=Tryz.zeroValue338
 t75:=Tryz.underlying227
 a75:=Tryz.isAgg227
 z75:=Tryz.sizeOf227
 v75:=Tryz.zeroValue227
 t76:=Tryz.underlying228
 a76:=Tryz.isAgg228
 z76:=Tryz.sizeOf228
 v76:=Tryz.zeroValue228
 t109:=Tryz.underlying382
 a109:=Tryz.isAgg382
 z109:=Tryz.sizeOf382
 v109:=Tryz.zeroValue382
 t127:=Tryz.underlying385
 a127:=Tryz.isAgg385
 z127:=Tryz.sizeOf385
 v127:=Tryz.zeroValue385
 t146:=Tryz.underlying406
 a146:=Tryz.isAgg406
 z146:=Tryz.sizeOf406
 v146:=Tryz.zeroValue406
 t148:=Tryz.underlying408
 a148:=Tryz.isAgg408
 z148:=Tryz.sizeOf408
 v148:=Tryz.zeroValue408
 t164:=Tryz.underlying404
 a164:=Tryz.isAgg404
 z164:=Tryz.sizeOf404
 v164:=Tryz.zeroValue404 }
theorem Tryz.Builder_Extra_105:Builder.Extra Tryz.prog Tryz.lays105_ren:={
 sizeBuilder:=by kernel_rfl
 liesBuilder:=by kernel_rfl
 t5:=Tryz.underlying5
 a5:=Tryz.isAgg5
 z5:=Tryz.sizeOf5
 v5:=Tryz.zeroValue5
 infoByte:=by kernel_rfl
 cellsByte:=by kernel_rfl
 sizeByte:=by kernel_rfl
 neB5:=by decide }
open Go.RowKit Go.Lib in
theorem Tryz.strings_Repeat (s:ByteArray) (c:Nat) (w:World) (hc:c≤9223372036854775807) (hlen:s.size*c≤140737488355328) :
  Calls Tryz.prog 300 #[.string s,.int .i64 c] w fun e w'=>e=.returned (.string ⟨(Lib.repeatL s.data.toList c).toArray⟩)∧Below w.heap.size w w':=Any.strings_Repeat Tryz.lays105 Tryz.Builder_Extra_105 s c w hc hlen
end Go.Proofs
