/- Lemmas. -/
import Derived.Test.YtabhjdmmfdfpeaaGreatDoorKWord
import Derived.BigQuiet
import Derived.Lib.UnsafeStr
namespace Go.Proofs.YtabhjdmmfdfpeaaGreatDoor
set_option maxHeartbeats 32000000
open Go.RowKit
variable {a:ByteArray}
theorem q1y (s:ByteArray):s.data.toList.length=s.size:=s_
theorem bs_of {l:BT} (h:a.data.toList=l):a=⟨l.toArray⟩:=by
 obtain ⟨⟨x⟩⟩:=a;simp at h;rw [h]
theorem bs_eq {b:ByteArray} (h:a.data.toList=b.data.toList):a=b:=ByteArray.ext (Array.ext' h)
theorem qen (s:ByteArray) (h:0<s.size):negT s.data.toList=true↔(s[0].toNat:Int)=45:=by
 have hh:s.data.toList.head? = some s[0]:=by
  rw [List.head?_eq_getElem?,List.getElem?_eq_getElem (by simpa using h)];rfl
 generalize s[0]=c at *
 cases hl:s.data.toList with
 | nil=>rw [hl] at hh;cases hh
 | cons x t =>
  rw [hl] at hh
  injection hh with hh
  subst hh
  constructor
  ·intro hn
   by_cases hx:x=45
   ·subst hx;rfl
   ·rw [qei hx] at hn;cases hn
  ·intro hx
   have:x=45:=UInt8.toNat_inj.1 (by show x.toNat=45;omega)
   subst this;rfl
theorem qbx (s:ByteArray):(s.toList == [48])=decide (s.data.toList=[48]):=by
 rw [ByteArray.toList_eq,Bool.eq_iff_iff];simp
def nv (l:List Nat):List Value:=l.map fun (x:Nat)=>Value.int .i64 (x:Int)
end Go.Proofs.YtabhjdmmfdfpeaaGreatDoor
