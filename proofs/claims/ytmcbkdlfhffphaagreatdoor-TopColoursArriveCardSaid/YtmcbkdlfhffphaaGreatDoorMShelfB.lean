/- Lemmas. -/
import Derived.Shelf.SlSortCmp.NoneTotal
import Derived.Test.YtmcbkdlfhffphaaGreatDoorProg
namespace Go.Proofs
open Go.Shelf
def Tryz.laysSlF06_f117_ren:Go.Shelf.Ren:=⟨fun | 6=>117 | 15=>156 | 14=>155 | 28=>205 | 29=>206 | 20=>197 | 21=>198 | 22=>199 | 23=>200 | 24=>201 | 25=>202 | 26=>203 | 27=>204 | 46=>244 | 47=>245 | 48=>246 | 49=>247 | 50=>248 | 57=>271 | n=>n,fun | 22=>24 | 24=>36 | 25=>182 | 3=>3 | 39=>154 | 0=>0 | 53=>260 | 55=>262 | 4=>4 | 46=>253 | 45=>252 | 50=>257 | 5=>5 | 9=>9 | 66=>297 | 70=>301 | 76=>323 | 77=>324 | n=>n,fun | n=>n⟩
theorem Tryz.laysSlF06_f117:Go.Proofs.SlLaysF0.n6 Tryz.prog Tryz.laysSlF06_f117_ren:={
 mixed:=by kernel_rfl
 f6:=⟨Tryz.f117.name,by decide,Tryz.func117.trans (congrArg some (by kernel_rfl))⟩
 f14:=⟨Tryz.f155.name,by decide,Tryz.func155.trans (congrArg some (by kernel_rfl))⟩
 f15:=Tryz.func156.trans (congrArg some (by kernel_rfl))
 f20:=⟨Tryz.f197.name,by decide,Tryz.func197.trans (congrArg some (by kernel_rfl))⟩
 f21:=⟨Tryz.f198.name,by decide,Tryz.func198.trans (congrArg some (by kernel_rfl))⟩
 f22:=⟨Tryz.f199.name,by decide,Tryz.func199.trans (congrArg some (by kernel_rfl))⟩
 f23:=⟨Tryz.f200.name,by decide,Tryz.func200.trans (congrArg some (by kernel_rfl))⟩
 f24:=⟨Tryz.f201.name,by decide,Tryz.func201.trans (congrArg some (by kernel_rfl))⟩
 f25:=⟨Tryz.f202.name,by decide,Tryz.func202.trans (congrArg some (by kernel_rfl))⟩
 f26:=⟨Tryz.f203.name,by decide,Tryz.func203.trans (congrArg some (by kernel_rfl))⟩
 f27:=⟨Tryz.f204.name,by decide,Tryz.func204.trans (congrArg some (by kernel_rfl))⟩
 f28:=Tryz.func205.trans (congrArg some (by kernel_rfl))
 f29:=Tryz.func206.trans (congrArg some (by kernel_rfl))
 f46:=⟨Tryz.f244.name,by decide,Tryz.func244.trans (congrArg some (by kernel_rfl))⟩
 f47:=Tryz.func245.trans (congrArg some (by kernel_rfl))
 f48:=Tryz.func246.trans (congrArg some (by kernel_rfl))
 f49:=⟨Tryz.f247.name,by decide,Tryz.func247.trans (congrArg some (by kernel_rfl))⟩
 f50:=⟨Tryz.f248.name,by decide,Tryz.func248.trans (congrArg some (by kernel_rfl))⟩
 f57:=⟨Tryz.f271.name,by decide,Tryz.func271.trans (congrArg some (by kernel_rfl))⟩
 t0:=Tryz.underlying0
 a0:=Tryz.isAgg0
 z0:=Tryz.sizeOf0
 v0:=Tryz.zeroValue0
 t3:=Tryz.underlying3
 a3:=Tryz.isAgg3
 z3:=Tryz.sizeOf3
 v3:=Tryz.zeroValue3
 t4:=Tryz.underlying4
 a4:=Tryz.isAgg4
 z4:=Tryz.sizeOf4
 v4:=Tryz.zeroValue4
 t5:=Tryz.underlying5
 a5:=Tryz.isAgg5
 z5:=Tryz.sizeOf5
 v5:=Tryz.zeroValue5
 t9:=Tryz.underlying9
 a9:=Tryz.isAgg9
 z9:=Tryz.sizeOf9
 v9:=Tryz.zeroValue9
 t22:=Tryz.underlying24
 a22:=Tryz.isAgg24
 z22:=Tryz.sizeOf24
 v22:=Tryz.zeroValue24
 t25:=Tryz.underlying182
 a25:=Tryz.isAgg182
 z25:=Tryz.sizeOf182
 v25:=Tryz.zeroValue182
 t39:=Tryz.underlying154
 a39:=Tryz.isAgg154
 z39:=Tryz.sizeOf154
 v39:=Tryz.zeroValue154
 t45:=Tryz.underlying252
 a45:=Tryz.isAgg252
 z45:=Tryz.sizeOf252
 v45:=Tryz.zeroValue252
 t46:=Tryz.underlying253
 a46:=Tryz.isAgg253
 z46:=Tryz.sizeOf253
 v46:=Tryz.zeroValue253
 t50:=Tryz.underlying257
 a50:=Tryz.isAgg257
 z50:=Tryz.sizeOf257
 v50:=Tryz.zeroValue257
 t53:=Tryz.underlying260
 a53:=Tryz.isAgg260
 z53:=Tryz.sizeOf260
 v53:=Tryz.zeroValue260
 t55:=Tryz.underlying262
 a55:=Tryz.isAgg262
 z55:=Tryz.sizeOf262
 v55:=Tryz.zeroValue262
 t66:=Tryz.underlying297
 a66:=Tryz.isAgg297
 z66:=Tryz.sizeOf297
 v66:=Tryz.zeroValue297
 t70:=Tryz.underlying301
 a70:=Tryz.isAgg301
 z70:=Tryz.sizeOf301
 v70:=Tryz.zeroValue301
 t76:=Tryz.underlying323
 a76:=Tryz.isAgg323
 z76:=Tryz.sizeOf323
 v76:=Tryz.zeroValue323
 t77:=Tryz.underlying324
 a77:=Tryz.isAgg324
 z77:=Tryz.sizeOf324
 v77:=Tryz.zeroValue324 }
open Go.RowKit Go.Lib Go.Sort in
theorem Tryz.slices_SortFunc_f117 {α:Type} [Inhabited α] (k:Nat) (aE:∀ w,(isAgg 36).run Tryz.prog w=.ok true w) (zE:∀ w,(Go.sizeOf 36).run Tryz.prog w=.ok k w) (enc:α→List Value) (hk:∀ x,(enc x).length=k) (h1:∀ x,∀ v ∈ enc x,v.oneCell' = true) (cf:α→α→Int) (hO:SWO (ltOf cf)) (g:Nat) (cb:Array Value) (blk off cap:Nat) (d:Array α) (w:World) (eg:∀ args w,(callFunc g args).run Tryz.prog w=.ok (.enter g args) w) (hcmp:CmpLays Tryz.prog g cb enc k cf blk off d.size w) (hH:HoldsK enc k w blk off d) (hblk:blk<w.heap.size) (hsz:d.size<4611686018427387904) :
  Calls Tryz.prog 117 #[.slice (some ⟨blk,off,none⟩) d.size cap,.func (.func g) #[] cb] w fun e w' =>
   e=.returned (.tuple #[])∧∃ d' n os,PermIn 0 d.size d d'∧SortedIn (ltOf cf) 0 d.size d'∧w' = sortWorldK enc k w blk off n d' os:=AnyQ.slices_SortFunc Tryz.laysSlF06_f117 k aE zE enc hk h1 cf hO g cb blk off cap d w eg hcmp hH hblk hsz
open Go.RowKit Go.Lib Go.Sort in
theorem Tryz.slices_SortFunc_none_f117 {α:Type} [Inhabited α] (p:Option Addr) (cap:Nat) (fv:Value) (w:World) :
  Calls Tryz.prog 117 #[.slice p 0 cap,fv] w fun e w'=>e=.returned (.tuple #[])∧w' = w:=AnyF.slices_SortFunc_none Tryz.laysSlF06_f117 p cap fv w
end Go.Proofs
