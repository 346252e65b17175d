/- Lemmas. -/
import Derived.Test.YtabhjdmmfdfpeaaGreatDoorRows
import Derived.ProofKit
import Derived.OpenShut
import Derived.Deep.Fields
import Derived.LaidSub
import Derived.Lib.LaidU8
import Derived.Deep.DeepLaidRun
import Derived.Stop.LaidErr
import Derived.Test.YtabhjdmmfdfpeaaGreatDoorKRefB
namespace Go.Proofs.YtabhjdmmfdfpeaaGreatDoor
set_option maxHeartbeats 32000000
open _root_.Go.Proofs.Tryz
open Go.RowKit
variable {x y z:Int} {k n:Nat} {A:Option Addr} {W w:World}
section
open Go.ChangeShapes Go.WideShapes Go.ChangeAt Go.RowKit Go.Deep
theorem own_:ownKnob prog.godebug=none:=k_
theorem qci:laidOutB prog=true:=k_
def L3:List (String × DataW Unit):=Rows.powerSpreadsRow.laid
theorem qrm:(prog.globals[3]?).map (·.type)=some 377:=k_
theorem q2b:prog.cellsOf 377=20:=k_
theorem cellsU:prog.cellsOf 258=1:=k_
theorem qrl:(Rows.laid_internal_strconv_uint64pow10:DataW Unit)=Lib.tabData .u64 Lib.pow10Tab:=k_
theorem qrn (h:laidMetH prog L3 W):Tab W:=by
 have h1:laidMet prog L3 W:=(laidMetH_iff.1 h).1;obtain ⟨g, t, cs, fuel, p, hg, ht, hv, hd⟩ := Lib.laidMet.reads (n := "internal/strconv.uint64pow10") (d := Rows.laid_internal_strconv_uint64pow10) h1 (.tail _ (.tail _ (.head _)));obtain rfl:=Option.some.inj (qad.symm.trans hg);obtain rfl:=Option.some.inj (qrm.symm.trans ht);rw [qrl] at hd;unfold Tab Lib.TabIs;rw [hv,← Lib.cells_of_tab underlying377 underlying258 cellsU q2b hd]
theorem qms:(prog.globals[7]?).map (·.type)=some 336:=k_
theorem q2c:prog.cellsOf 404=1:=k_
theorem q2f:prog.cellsOf 9=1:=k_
theorem qqq : "*" ++ "errors.errorString" = "*errors.errorString" := d_
theorem row_es (u : TypeId) (h : prog.typeName? 3 u = some "*errors.errorString") : u = 402 :=
 typeName_ptr_named (nm := "errors.errorString") (by rw [qqq]; kernel_rfl) k_ d_ u (by rw [qqq]; exact h)
theorem qmt (h:laidMetH prog L3 W):Rng W:=by
 have h1:laidMet prog L3 W:=(laidMetH_iff.1 h).1;obtain ⟨a0, s0, hv0, -, -, -⟩ := laid_sentinel (n := "strconv.ErrRange") h1.tail.tail.tail.tail qac qms underlying336 row_es underlying402 underlying404 rfl rfl underlying9 q2c q2f;exact ⟨_,_,hv0⟩
def qcy:List (DataW Unit)→List Value
 | .lit (.int k z) :: r=>.int k z :: qcy r
 | _ :: r=>.int .u8 0 :: qcy r
 | []=>[]
def cell1:DataW Unit→List Value
 | .lit (.int k z)=>[.int k z]
 | .agg l=>qcy l
 | _=>[]
def debits:DataW Unit→List Value
 | .agg l=>l.flatMap cell1
 | _=>[]
noncomputable def qcj (os:Os):World :=
 let N:=(World.settled prog os).heap.size
 let w0:=World.holding prog os ⟨#[.cells #[.string ⟨[118,97,108,117,101,32,111,117,116,32,111,102,32,114,97,110,103,101].toArray⟩] 404,.cells #[.string ⟨[105,110,118,97,108,105,100,32,115,121,110,116,97,120].toArray⟩] 404],#[],[]⟩
 let put (h:Array Obj) (g:Nat) (cs:Array Value):Array Obj:=h.modify g fun
  | .cells _ t frozen=>.cells cs t frozen
  | o=>o
 let h1:=put w0.heap 4 (debits (Rows.laid_math_bits_deBruijn32tab:DataW Unit)).toArray
 let h2:=put h1 5 (debits (Rows.laid_math_bits_deBruijn64tab:DataW Unit)).toArray
 let h3:=put h2 3 (Lib.pow10Tab.map fun z=>Value.int .u64 z).toArray
 let h4:=put h3 2 (debits (Rows.laid_unicode_utf8_acceptRanges:DataW Unit)).toArray
 let h5:=put h4 7 #[.iface 402 (.pointer (some ⟨N+0,0,none⟩))]
 let h6:=put h5 6 #[.iface 402 (.pointer (some ⟨N+1,0,none⟩))]
 let h7:=put h6 1 (debits (Rows.laid_unicode_utf8_first:DataW Unit)).toArray
 { w0 with heap:=h7 }
theorem qck (os:Os) (args:Array Value):laidMetH prog L3 ((qcj os).forCall (fun _ _=>0) ⟨#[],args,[]⟩).memory :=
 laidMetH_of_parts (laidMet_of_run3 10 k_ k_ k_) k_
def Laid (w:World):Prop:=Tab w∧Rng w
theorem qcl (h:laidMetH prog L3 W):Laid W:=⟨qrn h,qmt h⟩
end
def sv (l:List ByteArray):List Value:=l.map Value.string
theorem qrh (l:List ByteArray):(sv l).length=l.length:=by simp [sv]
def Ss (w:World) (A:Option Addr) (n:Nat) (l:List ByteArray):Prop:=n=l.length∧Sl w 1 A n (sv l)
theorem Ss.below {w':World} {l:List ByteArray} (h:Ss w A n l) (hb:Below w.heap.size w w'):Ss w' A n l:=⟨h.1,h.2.below hb⟩
theorem Ss.at1 {l:List ByteArray} (h:Ss w A n l) (hk:k<l.length) :
  ∃ b o,A=some ⟨b,o,none⟩∧b<w.heap.size∧w.cell? ⟨b,o+k,none⟩=some (.string l[k]):=by
 obtain ⟨b,o,e,hb,hc⟩:=h.2.2 (oh_ h.1)
 exact ⟨b,o,e,hb,hc k _ (by simp [sv,hk])⟩
theorem Ss.fresh (w:World) (l:List ByteArray) (t:TypeId) (cs:Array Value) (hcs:cs.toList=sv l):Ss (w.alloc (.cells cs t)) (some ⟨w.heap.size,0,none⟩) l.length l:=by
 refine ⟨rfl,by rw [qrh,Nat.mul_one],fun _=>⟨w.heap.size,0,rfl,s_,fun j u hu=>?_⟩⟩
 rw [Nat.zero_add,World.cell?_alloc_new,← Array.getElem?_toList,hcs];exact hu
def sI (z:Int):ByteArray:=⟨(Lib.itoa z).toArray⟩
theorem qoc (z:Int):(sI z).data.toList=Lib.itoa z:=rfl
theorem sI_of {a:ByteArray} (h:a.data.toList=Lib.itoa x):a=sI x:=ByteArray.ext (Array.ext' (by rw [h,qoc]))
theorem qod (hx:Fit x):(sI x).size≤4097:=q8j (qoc x) hx
theorem q31 (hx:Fit x):chkI (sI x).data.toList=0:=by rw [qoc];exact q2w hx
theorem qz1 (x:Int):valI (sI x).data.toList=x:=by rw [qoc,qyz]
theorem q2q (hx:Fit x) (hy:Fit y):chk2 (sI x).data.toList (sI y).data.toList=0:=q2r.2 ⟨q31 hx,q31 hy⟩
theorem qy9 {m:Nat} (hx:x.natAbs<10 ^ k) (h:k≤m):x.natAbs<10 ^ m:=Nat.lt_of_lt_of_le hx (Nat.pow_le_pow_right o_ h)
theorem fit_lt {b:Int} (h:b.natAbs<10 ^ k) (hk:k≤4096):Fit b:=by
 unfold Fit;exact qy9 (m:=4096) h hk
theorem opT_sI {op:Int→Int→Int} (hx:Fit x) (hy:Fit y) (hz:Fit z) (h:op x y=z):opT op (sI x).data.toList (sI y).data.toList=(Lib.itoa z,0):=by
 unfold opT;rw [if_neg (by simpa using q2q hx hy),qz1,qz1,h,qd0 hz]
theorem q5p {op:Int→Int→Int} (hx:Fit x) (hy:Fit y) (h0:y≠0) (hz:Fit z) (h:op x y=z):divT op (sI x).data.toList (sI y).data.toList=(Lib.itoa z,0):=by
 unfold divT;rw [if_neg (by simpa using q2q hx hy),qz1,qz1,if_neg h0,h,qd0 hz]
theorem q3q (hx:Fit x) (hy:Fit y):comT (sI x).data.toList (sI y).data.toList=((x-y).sign,0):=by
 unfold comT;rw [if_neg (by simpa using q2q hx hy),qz1,qz1]
theorem q00m:Lib.itoa 0=[48]:=qcc
theorem q8k:Fit 0:=fit_lt (k:=1) d_ d_
theorem q07 (hx:Fit x) (hy:Fit y) (hz:Fit z) (h:x+y=z) (w:World) (ht:Tab w) :
  Rt 179 #[.string (sI x),.string (sI y)] w (.tuple #[.string (sI z),.int .i64 0]):=by
 have:=q06 (sI x) (sI y) w (Nat.le_trans (qod hx) d_) (Nat.le_trans (qod hy) d_) ht
 rw [opT_sI hx hy hz h] at this;exact this
theorem qr7 (hx:Fit x) (hy:Fit y) (hz:Fit z) (h:x-y=z) (w:World) (ht:Tab w) :
  Rt 180 #[.string (sI x),.string (sI y)] w (.tuple #[.string (sI z),.int .i64 0]):=by
 have:=qr6 (sI x) (sI y) w (Nat.le_trans (qod hx) d_) (Nat.le_trans (qod hy) d_) ht
 rw [opT_sI hx hy hz h] at this;exact this
theorem qe6 (hx:Fit x) (hy:Fit y) (hz:Fit z) (h:x*y=z) (w:World) (ht:Tab w) :
  Rt 246 #[.string (sI x),.string (sI y)] w (.tuple #[.string (sI z),.int .i64 0]):=by
 have:=qe4 (sI x) (sI y) w (Nat.le_trans (qod hx) d_) (Nat.le_trans (qod hy) d_) ht
 rw [opT_sI hx hy hz h] at this;exact this
theorem q9w (hx:Fit x) (hy:Fit y) (hz:Fit z) (h:((Nat.gcd x.natAbs y.natAbs:Nat):Int)=z) (w:World) (ht:Tab w) :
  Rt 120 #[.string (sI x),.string (sI y)] w (.tuple #[.string (sI z),.int .i64 0]):=by
 have:=q9v (sI x) (sI y) w (Nat.le_trans (qod hx) d_) (Nat.le_trans (qod hy) d_) ht
 rw [opT_sI hx hy hz h] at this;exact this
theorem qka (hx:Fit x) (hy:Fit y) (h0:y≠0) (h:x.fdiv y=z) (w:World) (ht:Tab w) :
  Rt 184 #[.string (sI x),.string (sI y)] w (.tuple #[.string (sI z),.int .i64 0]):=by
 have:=qk9 (sI x) (sI y) w (Nat.le_trans (qod hx) d_) (Nat.le_trans (qod hy) d_) ht
 rw [q5p hx hy h0 (by rw [← h];exact q7e hx h0) h] at this
 exact this
theorem qls (hx:Fit x) (hy:Fit y) (h0:y≠0) (h:x.fmod y=z) (w:World) (ht:Tab w) :
  Rt 307 #[.string (sI x),.string (sI y)] w (.tuple #[.string (sI z),.int .i64 0]):=by
 have:=qlr (sI x) (sI y) w (Nat.le_trans (qod hx) d_) (Nat.le_trans (qod hy) d_) ht
 rw [q5p hx hy h0 (by rw [← h];exact q93 hy h0) h] at this
 exact this
theorem q3r (hx:Fit x) (hy:Fit y) (w:World) :
  Rt 308 #[.string (sI x),.string (sI y)] w (.tuple #[.int .i64 (x-y).sign,.int .i64 0]):=by
 have:=q3t (sI x) (sI y) w (Nat.le_trans (qod hx) d_) (Nat.le_trans (qod hy) d_)
 rw [q3q hx hy] at this;exact this
theorem qqa (hx:Fit x) (h0:-9223372036854775808≤x) (h1:x≤9223372036854775807) (w:World) (hr:Rng w) :
  Rt 268 #[.string (sI x)] w (.tuple #[.int .i64 x,.int .i64 0]):=by
 have:=qq9 (sI x) w (Nat.le_trans (qod hx) d_) hr
 rw [show smallT (sI x).data.toList=(x,0) by unfold smallT;rw [if_neg (by simpa using q31 hx),qz1,if_pos ⟨h0,h1⟩]] at this
 exact this
theorem of_fit (h0:-9223372036854775808≤x) (h1:x≤9223372036854775807) (w:World) (ht:Tab w) :
  Rt 77 #[.int .i64 x] w (.string (sI x)):=of_any x h0 h1 w ht
theorem q8g (h0:-9223372036854775808≤x) (h1:x≤9223372036854775807):Fit x:=fit_lt (k:=19) o_ d_
end Go.Proofs.YtabhjdmmfdfpeaaGreatDoor
