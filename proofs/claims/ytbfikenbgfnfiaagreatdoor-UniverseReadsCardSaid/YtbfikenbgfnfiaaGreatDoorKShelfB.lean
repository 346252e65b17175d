/- Lemmas. -/
import Derived.Shelf.SlSortCmp.NoneTotal
import Derived.Test.YtbfikenbgfnfiaaGreatDoorProg
namespace Go.Proofs
open Go.Shelf
def Tryz.laysSlF06_f75_ren:Go.Shelf.Ren:=⟨fun | 6=>75 | 15=>124 | 14=>123 | 28=>201 | 29=>202 | 20=>193 | 21=>194 | 22=>195 | 23=>196 | 24=>197 | 25=>198 | 26=>199 | 27=>200 | 46=>270 | 47=>271 | 48=>272 | 49=>273 | 50=>274 | 57=>328 | n=>n,fun | 22=>61 | 24=>43 | 25=>140 | 3=>3 | 39=>174 | 0=>0 | 53=>258 | 55=>260 | 4=>4 | 46=>252 | 45=>251 | 50=>246 | 5=>5 | 9=>9 | 66=>314 | 70=>318 | 76=>363 | 77=>75 | n=>n,fun | n=>n⟩
theorem Tryz.laysSlF06_f75:Go.Proofs.SlLaysF0.n6 Tryz.prog Tryz.laysSlF06_f75_ren:={
 mixed:=by kernel_rfl
 f6:=⟨Tryz.f75.name,by decide,Tryz.func75.trans (congrArg some (by kernel_rfl))⟩
 f14:=⟨Tryz.f123.name,by decide,Tryz.func123.trans (congrArg some (by kernel_rfl))⟩
 f15:=Tryz.func124.trans (congrArg some (by kernel_rfl))
 f20:=⟨Tryz.f193.name,by decide,Tryz.func193.trans (congrArg some (by kernel_rfl))⟩
 f21:=⟨Tryz.f194.name,by decide,Tryz.func194.trans (congrArg some (by kernel_rfl))⟩
 f22:=⟨Tryz.f195.name,by decide,Tryz.func195.trans (congrArg some (by kernel_rfl))⟩
 f23:=⟨Tryz.f196.name,by decide,Tryz.func196.trans (congrArg some (by kernel_rfl))⟩
 f24:=⟨Tryz.f197.name,by decide,Tryz.func197.trans (congrArg some (by kernel_rfl))⟩
 f25:=⟨Tryz.f198.name,by decide,Tryz.func198.trans (congrArg some (by kernel_rfl))⟩
 f26:=⟨Tryz.f199.name,by decide,Tryz.func199.trans (congrArg some (by kernel_rfl))⟩
 f27:=⟨Tryz.f200.name,by decide,Tryz.func200.trans (congrArg some (by kernel_rfl))⟩
 f28:=Tryz.func201.trans (congrArg some (by kernel_rfl))
 f29:=Tryz.func202.trans (congrArg some (by kernel_rfl))
 f46:=⟨Tryz.f270.name,by decide,Tryz.func270.trans (congrArg some (by kernel_rfl))⟩
 f47:=Tryz.func271.trans (congrArg some (by kernel_rfl))
 f48:=Tryz.func272.trans (congrArg some (by kernel_rfl))
 f49:=⟨Tryz.f273.name,by decide,Tryz.func273.trans (congrArg some (by kernel_rfl))⟩
 f50:=⟨Tryz.f274.name,by decide,Tryz.func274.trans (congrArg some (by kernel_rfl))⟩
 f57:=⟨Tryz.f328.name,by decide,Tryz.func328.trans (congrArg some (by kernel_rfl))⟩
 t0:=Tryz.underlying0
 a0:=Tryz.isAgg0
 z0:=Tryz.sizeOf0
 v0:=Tryz.zeroValue0
 t3:=Tryz.underlying3
 a3:=Tryz.isAgg3
 z3:=Tryz.sizeOf3
 v3:=Tryz.zeroValue3
 t4:=Tryz.underlying4
 a4:=Tryz.isAgg4
 z4:=Tryz.sizeOf4
 v4:=Tryz.zeroValue4
 t5:=Tryz.underlying5
 a5:=Tryz.isAgg5
 z5:=Tryz.sizeOf5
 v5:=Tryz.zeroValue5
 t9:=Tryz.underlying9
 a9:=Tryz.isAgg9
 z9:=Tryz.sizeOf9
 v9:=Tryz.zeroValue9
 t22:=Tryz.underlying61
 a22:=Tryz.isAgg61
 z22:=Tryz.sizeOf61
 v22:=Tryz.zeroValue61
 t25:=Tryz.underlying140
 a25:=Tryz.isAgg140
 z25:=Tryz.sizeOf140
 v25:=Tryz.zeroValue140
 t39:=Tryz.underlying174
 a39:=Tryz.isAgg174
 z39:=Tryz.sizeOf174
 v39:=Tryz.zeroValue174
 t45:=Tryz.underlying251
 a45:=Tryz.isAgg251
 z45:=Tryz.sizeOf251
 v45:=Tryz.zeroValue251
 t46:=Tryz.underlying252
 a46:=Tryz.isAgg252
 z46:=Tryz.sizeOf252
 v46:=Tryz.zeroValue252
 t50:=Tryz.underlying246
 a50:=Tryz.isAgg246
 z50:=Tryz.sizeOf246
 v50:=Tryz.zeroValue246
 t53:=Tryz.underlying258
 a53:=Tryz.isAgg258
 z53:=Tryz.sizeOf258
 v53:=Tryz.zeroValue258
 t55:=Tryz.underlying260
 a55:=Tryz.isAgg260
 z55:=Tryz.sizeOf260
 v55:=Tryz.zeroValue260
 t66:=Tryz.underlying314
 a66:=Tryz.isAgg314
 z66:=Tryz.sizeOf314
 v66:=Tryz.zeroValue314
 t70:=Tryz.underlying318
 a70:=Tryz.isAgg318
 z70:=Tryz.sizeOf318
 v70:=Tryz.zeroValue318
 t76:=Tryz.underlying363
 a76:=Tryz.isAgg363
 z76:=Tryz.sizeOf363
 v76:=Tryz.zeroValue363
 t77:=Tryz.underlying75
 a77:=Tryz.isAgg75
 z77:=Tryz.sizeOf75
 v77:=Tryz.zeroValue75 }
def Tryz.laysSlF06_f207_ren:Go.Shelf.Ren:=⟨fun | 6=>207 | 15=>124 | 14=>275 | 28=>201 | 29=>202 | 20=>329 | 21=>330 | 22=>331 | 23=>332 | 24=>333 | 25=>334 | 26=>335 | 27=>336 | 46=>368 | 47=>271 | 48=>272 | 49=>369 | 50=>370 | 57=>388 | n=>n,fun | 22=>24 | 24=>55 | 25=>264 | 3=>3 | 39=>174 | 0=>0 | 53=>258 | 55=>260 | 4=>4 | 46=>252 | 45=>251 | 50=>246 | 5=>5 | 9=>9 | 66=>314 | 70=>318 | 76=>363 | 77=>75 | n=>n,fun | n=>n⟩
theorem Tryz.laysSlF06_f207:Go.Proofs.SlLaysF0.n6 Tryz.prog Tryz.laysSlF06_f207_ren:={
 mixed:=by kernel_rfl
 f6:=⟨Tryz.f207.name,by decide,Tryz.func207.trans (congrArg some (by kernel_rfl))⟩
 f14:=⟨Tryz.f275.name,by decide,Tryz.func275.trans (congrArg some (by kernel_rfl))⟩
 f15:=Tryz.func124.trans (congrArg some (by kernel_rfl))
 f20:=⟨Tryz.f329.name,by decide,Tryz.func329.trans (congrArg some (by kernel_rfl))⟩
 f21:=⟨Tryz.f330.name,by decide,Tryz.func330.trans (congrArg some (by kernel_rfl))⟩
 f22:=⟨Tryz.f331.name,by decide,Tryz.func331.trans (congrArg some (by kernel_rfl))⟩
 f23:=⟨Tryz.f332.name,by decide,Tryz.func332.trans (congrArg some (by kernel_rfl))⟩
 f24:=⟨Tryz.f333.name,by decide,Tryz.func333.trans (congrArg some (by kernel_rfl))⟩
 f25:=⟨Tryz.f334.name,by decide,Tryz.func334.trans (congrArg some (by kernel_rfl))⟩
 f26:=⟨Tryz.f335.name,by decide,Tryz.func335.trans (congrArg some (by kernel_rfl))⟩
 f27:=⟨Tryz.f336.name,by decide,Tryz.func336.trans (congrArg some (by kernel_rfl))⟩
 f28:=Tryz.func201.trans (congrArg some (by kernel_rfl))
 f29:=Tryz.func202.trans (congrArg some (by kernel_rfl))
 f46:=⟨Tryz.f368.name,by decide,Tryz.func368.trans (congrArg some (by kernel_rfl))⟩
 f47:=Tryz.func271.trans (congrArg some (by kernel_rfl))
 f48:=Tryz.func272.trans (congrArg some (by kernel_rfl))
 f49:=⟨Tryz.f369.name,by decide,Tryz.func369.trans (congrArg some (by kernel_rfl))⟩
 f50:=⟨Tryz.f370.name,by decide,Tryz.func370.trans (congrArg some (by kernel_rfl))⟩
 f57:=⟨Tryz.f388.name,by decide,Tryz.func388.trans (congrArg some (by kernel_rfl))⟩
 t0:=Tryz.underlying0
 a0:=Tryz.isAgg0
 z0:=Tryz.sizeOf0
 v0:=Tryz.zeroValue0
 t3:=Tryz.underlying3
 a3:=Tryz.isAgg3
 z3:=Tryz.sizeOf3
 v3:=Tryz.zeroValue3
 t4:=Tryz.underlying4
 a4:=Tryz.isAgg4
 z4:=Tryz.sizeOf4
 v4:=Tryz.zeroValue4
 t5:=Tryz.underlying5
 a5:=Tryz.isAgg5
 z5:=Tryz.sizeOf5
 v5:=Tryz.zeroValue5
 t9:=Tryz.underlying9
 a9:=Tryz.isAgg9
 z9:=Tryz.sizeOf9
 v9:=Tryz.zeroValue9
 t22:=Tryz.underlying24
 a22:=Tryz.isAgg24
 z22:=Tryz.sizeOf24
 v22:=Tryz.zeroValue24
 t25:=Tryz.underlying264
 a25:=Tryz.isAgg264
 z25:=Tryz.sizeOf264
 v25:=Tryz.zeroValue264
 t39:=Tryz.underlying174
 a39:=Tryz.isAgg174
 z39:=Tryz.sizeOf174
 v39:=Tryz.zeroValue174
 t45:=Tryz.underlying251
 a45:=Tryz.isAgg251
 z45:=Tryz.sizeOf251
 v45:=Tryz.zeroValue251
 t46:=Tryz.underlying252
 a46:=Tryz.isAgg252
 z46:=Tryz.sizeOf252
 v46:=Tryz.zeroValue252
 t50:=Tryz.underlying246
 a50:=Tryz.isAgg246
 z50:=Tryz.sizeOf246
 v50:=Tryz.zeroValue246
 t53:=Tryz.underlying258
 a53:=Tryz.isAgg258
 z53:=Tryz.sizeOf258
 v53:=Tryz.zeroValue258
 t55:=Tryz.underlying260
 a55:=Tryz.isAgg260
 z55:=Tryz.sizeOf260
 v55:=Tryz.zeroValue260
 t66:=Tryz.underlying314
 a66:=Tryz.isAgg314
 z66:=Tryz.sizeOf314
 v66:=Tryz.zeroValue314
 t70:=Tryz.underlying318
 a70:=Tryz.isAgg318
 z70:=Tryz.sizeOf318
 v70:=Tryz.zeroValue318
 t76:=Tryz.underlying363
 a76:=Tryz.isAgg363
 z76:=Tryz.sizeOf363
 v76:=Tryz.zeroValue363
 t77:=Tryz.underlying75
 a77:=Tryz.isAgg75
 z77:=Tryz.sizeOf75
 v77:=Tryz.zeroValue75 }
open Go.RowKit Go.Lib Go.Sort in
theorem Tryz.slices_SortFunc_f75 {α:Type} [Inhabited α] (k:Nat) (aE:∀ w,(isAgg 43).run Tryz.prog w=.ok true w) (zE:∀ w,(Go.sizeOf 43).run Tryz.prog w=.ok k w) (enc:α→List Value) (hk:∀ x,(enc x).length=k) (h1:∀ x,∀ v ∈ enc x,v.oneCell' = true) (cf:α→α→Int) (hO:SWO (ltOf cf)) (g:Nat) (cb:Array Value) (blk off cap:Nat) (d:Array α) (w:World) (eg:∀ args w,(callFunc g args).run Tryz.prog w=.ok (.enter g args) w) (hcmp:CmpLays Tryz.prog g cb enc k cf blk off d.size w) (hH:HoldsK enc k w blk off d) (hblk:blk<w.heap.size) (hsz:d.size<4611686018427387904) :
  Calls Tryz.prog 75 #[.slice (some ⟨blk,off,none⟩) d.size cap,.func (.func g) #[] cb] w fun e w' =>
   e=.returned (.tuple #[])∧∃ d' n os,PermIn 0 d.size d d'∧SortedIn (ltOf cf) 0 d.size d'∧w' = sortWorldK enc k w blk off n d' os:=AnyQ.slices_SortFunc Tryz.laysSlF06_f75 k aE zE enc hk h1 cf hO g cb blk off cap d w eg hcmp hH hblk hsz
open Go.RowKit Go.Lib Go.Sort in
theorem Tryz.slices_SortFunc_f207 {α:Type} [Inhabited α] (k:Nat) (aE:∀ w,(isAgg 55).run Tryz.prog w=.ok true w) (zE:∀ w,(Go.sizeOf 55).run Tryz.prog w=.ok k w) (enc:α→List Value) (hk:∀ x,(enc x).length=k) (h1:∀ x,∀ v ∈ enc x,v.oneCell' = true) (cf:α→α→Int) (hO:SWO (ltOf cf)) (g:Nat) (cb:Array Value) (blk off cap:Nat) (d:Array α) (w:World) (eg:∀ args w,(callFunc g args).run Tryz.prog w=.ok (.enter g args) w) (hcmp:CmpLays Tryz.prog g cb enc k cf blk off d.size w) (hH:HoldsK enc k w blk off d) (hblk:blk<w.heap.size) (hsz:d.size<4611686018427387904) :
  Calls Tryz.prog 207 #[.slice (some ⟨blk,off,none⟩) d.size cap,.func (.func g) #[] cb] w fun e w' =>
   e=.returned (.tuple #[])∧∃ d' n os,PermIn 0 d.size d d'∧SortedIn (ltOf cf) 0 d.size d'∧w' = sortWorldK enc k w blk off n d' os:=AnyQ.slices_SortFunc Tryz.laysSlF06_f207 k aE zE enc hk h1 cf hO g cb blk off cap d w eg hcmp hH hblk hsz
open Go.RowKit Go.Lib Go.Sort in
theorem Tryz.slices_SortFunc_none_f75 {α:Type} [Inhabited α] (p:Option Addr) (cap:Nat) (fv:Value) (w:World) :
  Calls Tryz.prog 75 #[.slice p 0 cap,fv] w fun e w'=>e=.returned (.tuple #[])∧w' = w:=AnyF.slices_SortFunc_none Tryz.laysSlF06_f75 p cap fv w
open Go.RowKit Go.Lib Go.Sort in
theorem Tryz.slices_SortFunc_none_f207 {α:Type} [Inhabited α] (p:Option Addr) (cap:Nat) (fv:Value) (w:World) :
  Calls Tryz.prog 207 #[.slice p 0 cap,fv] w fun e w'=>e=.returned (.tuple #[])∧w' = w:=AnyF.slices_SortFunc_none Tryz.laysSlF06_f207 p cap fv w
end Go.Proofs
