/- Lemmas. -/
import Derived.Test.YtmcbkdlfhffphaaGreatDoorMWord
import Derived.BigQuiet
import Derived.Lib.UnsafeStr
namespace Go.Proofs.YtmcbkdlfhffphaaGreatDoor
set_option maxHeartbeats 32000000
open _root_.Go.Proofs.Tryz

section
open Go.RowKit
theorem q1y (s:ByteArray):s.data.toList.length=s.size:=by simp
theorem bs_of {a:ByteArray} {l:BT} (h:a.data.toList=l):a=⟨l.toArray⟩:=by
 obtain ⟨⟨x⟩⟩:=a;simp at h;rw [h]
theorem bs_eq {a b:ByteArray} (h:a.data.toList=b.data.toList):a=b:=ByteArray.ext (Array.ext' h)
theorem qen (s:ByteArray) (h:0<s.size):negT s.data.toList=true↔(s[0].toNat:Int)=45:=by
 have hh:s.data.toList.head? = some s[0]:=by
  rw [List.head?_eq_getElem?,List.getElem?_eq_getElem (by simpa using h)];rfl
 generalize s[0]=c at *
 cases hl:s.data.toList with
 | nil=>rw [hl] at hh;cases hh
 | cons x t =>
  rw [hl] at hh
  injection hh with hh
  subst hh
  constructor
  ·intro hn
   by_cases hx:x=45
   ·subst hx;rfl
   ·rw [qei hx] at hn;cases hn
  ·intro hx
   have:x=45:=UInt8.toNat_inj.1 (by show x.toNat=45;omega)
   subst this;rfl
theorem qbx (s:ByteArray):(s.toList == [48])=decide (s.data.toList=[48]):=by
 rw [ByteArray.toList_eq,Bool.eq_iff_iff];simp
end

section
open Go.RowKit
end

section
open Go.RowKit
theorem q4e {n:Int} (h0:-9223372036854775808≤n) (h1:n≤9223372036854775807):(decZ n.natAbs).length≤19:=by
 unfold decZ
 split
 ·simp
 ·exact (q4q (k:=19) (by omega)).2 (by omega)
theorem tmod10 (k:Int):∃ d:Nat,d<10∧d=k.natAbs % 10∧(k.tmod 10=d∨(k.tmod 10=-(d:Int)∧0<d)):=by
 refine ⟨k.natAbs % 10,by omega,rfl,?_⟩
 rcases Int.lt_or_le k 0 with h | h
 ·have e:k.tmod 10=-((-k).tmod 10):=by rw [Int.neg_tmod];omega
  rw [Int.tmod_eq_emod_of_nonneg (by omega:0≤-k)] at e
  by_cases h0:k.natAbs % 10=0
  ·left;omega
  ·right;omega
 ·left
  rw [Int.tmod_eq_emod_of_nonneg h];omega
theorem conv1 (w:World) (c:UInt8) (v:Int) (hv:v=(c.toNat:Int)) :
  (convert 104 9 (.slice (some ⟨w.heap.size,0,none⟩) 1 1)).run prog (w.alloc (.cells #[.int .u8 v] 5))=.ok (.string ⟨#[c]⟩) (w.alloc (.cells #[.int .u8 v] 5)):=by
 have h:=run_convert_bytes_back (P:=prog) (w.alloc (.cells #[.int .u8 v] 5)) 104 9 5 ⟨w.heap.size,0,none⟩ 1 [c] underlying104 underlying5 underlying9 (fun j hj=>by
  obtain rfl:j=0:=by simpa using hj
  have e:((⟨w.heap.size,0,none⟩:Addr).add 0)=⟨w.heap.size,0,none⟩:=by unfold Addr.add;simp
  rw [e,World.cell?_alloc_new,hv]
  rfl)
 exact h
set_option maxRecDepth 100000 in
theorem qo8 (n:Int) (h0:-9223372036854775808≤n) (h1:n≤9223372036854775807) (w:World) :
  Calls prog 36 #[.int .i64 n] w fun e w'=>e=.returned (.string ⟨(Lib.itoa n).toArray⟩)∧Below w.heap.size w w':=by
 by_cases hz:n=0
 ·subst hz
  rw [qcc];clear h0 h1
  go_enter func36,ntmps36
  go_wp2;go_ret;exact ⟨rfl,by (repeat' first | exact br_ | assumption | apply Below.drew | apply q18 | refine Below.alloc ?_ ?_ _ | refine Below.setCell ?_ ?_ _ | refine Below.trans ?_ (Below.mono ‹_› ?_) | omega | (simp;omega) | simp)⟩
 ·have g0:(n == 0)=false:=by simpa using hz
  have HZ:=hj_ hz;have hl20:=q4e h0 h1;clear hz
  go_enter func36,ntmps36
  go_wp2
  go_loopw [3,4] (fun sv kv wr=>∃ (k:Int) (s:ByteArray),kv=.int .i64 k∧sv=.string s∧-9223372036854775808≤k∧k≤9223372036854775807∧decZ n.natAbs=decZ k.natAbs ++ s.data.toList∧Below w.heap.size w wr) (fun _ kv _=>(intOf kv).natAbs)
  case atStart=>exact ⟨n,⟨#[]⟩,rfl,rfl,h0,h1,by simp,br_⟩
  case round =>
   obtain ⟨k,s,rfl,rfl,hk0,hk1,hd,hbw⟩:=hrel;have hs20:s.size≤19:=by
    have:=congrArg List.length hd
    rw [List.length_append,q1y] at this;omega
   have HD:=hj_ hd;have HL20:=hj_ hl20;clear hd hl20
   by_cases hk:k=0
   ·subst hk
    have hsd:s.data.toList=Lib.decDigits n.natAbs:=by
     have:=HD.out
     rw [q4f (by have:=HZ.out;omega),show (0:Int).natAbs=0 from rfl,q4h] at this
     exact this.symm
    by_cases hn:n<0
    ·have HS:=hj_ (show (⟨#[45]⟩ ++ s:ByteArray)=⟨(Lib.itoa n).toArray⟩ from bs_of (by rw [qc7 hn,← hsd];simp))
     clear hsd;go_wp2;go_ret;exact ⟨by rw [← HS.out];rfl,hbw⟩
    ·have HS:=hj_ (show s=⟨(Lib.itoa n).toArray⟩ from bs_of (by rw [qca (by omega),← hsd]))
     have hn':decide (n<0)=false:=by simpa using hn
     clear hsd hn;go_wp2;go_ret;exact ⟨by rw [← HS.out];rfl,hbw⟩
   ·have g1:(k == 0)=false:=by simpa using hk
    have g2:(k != 0)=true:=by simpa using hk
    obtain ⟨d,hd10,hd,hor⟩:=tmod10 k;have hq:(k.tdiv 10).natAbs=k.natAbs / 10:=Int.natAbs_tdiv k 10;have hq0:-9223372036854775808≤k.tdiv 10:=by omega
    have hq1:k.tdiv 10≤9223372036854775807:=by omega
    have hback:=q4b (n:=k.natAbs) (by omega)
    have hlt:(k.tdiv 10).natAbs<k.natAbs:=by omega
    rw [← hd,← hq] at hback;have HBk:=hj_ hback;have HLt:=hj_ hlt;have hcv:∀ v,v=48+(d:Int)→_:=fun v hv=>conv1 wr (dg1 d) v (by rw [q56 hd10];omega)
    have hcv:=hcv _ rfl;have hfin:decZ n.natAbs=decZ (k.tdiv 10).natAbs ++ (⟨#[dg1 d]⟩ ++ s:ByteArray).data.toList:=by
     rw [HD.out,HBk.out,List.append_assoc];simp
    have HFin:=hj_ hfin;clear hfin hback hlt hq hd hk
    rcases hor with hm | ⟨hm,hdp⟩
    ·have g3:decide ((d:Int)<0)=false:=by simp
     go_wp2_with fail;exact ⟨⟨_,_,rfl,rfl,hq0,hq1,HFin.out,hbw.alloc hbw.size _⟩,by simpa [intOf] using HLt.out⟩
    ·have g3:decide (-(d:Int)<0)=true:=by simp;omega
     go_wp2_with fail;exact ⟨⟨_,_,rfl,rfl,hq0,hq1,HFin.out,hbw.alloc hbw.size _⟩,by simpa [intOf] using HLt.out⟩
end

section
open Go.RowKit
end

section
open Go.RowKit
theorem infoN:(prog.info? 3).map (fun i=>(i.zero,i.size,i.bytes))=some (some (.int .i64 0),1,8):=by kernel_rfl
end

section
open Go.RowKit
end

end Go.Proofs.YtmcbkdlfhffphaaGreatDoor
