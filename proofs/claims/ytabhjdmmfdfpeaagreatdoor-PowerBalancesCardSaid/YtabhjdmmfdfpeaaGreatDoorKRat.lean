/- Lemmas. -/
import Derived.Test.YtabhjdmmfdfpeaaGreatDoorKLaw
namespace Go.Proofs.YtabhjdmmfdfpeaaGreatDoor
set_option maxHeartbeats 32000000
open Go.RowKit
variable {k:Nat} {r:Rat}
theorem qsq {c:UInt8} {t:BT}:topT (c :: t)=if c=47 then [] else c :: topT t:=by
 unfold topT
 by_cases h:c=47
 ·subst h;rfl
 ·rw [if_neg h,List.takeWhile_cons_of_pos (by simp [h])]
theorem qst:∀ (l:BT),(topT l).length≤l.length
 | []=>Nat.le_refl _
 | c :: t=>by
  rw [qsq]
  split
  ·simp
  ·have:=qst t;simp;omega
theorem q1k {l:BT} (h:qpv l=true):botT l=l.drop ((topT l).length+1):=by
 have:=qql h
 conv=>rhs;rw [this]
 rw [(qsv (p:=topT l) (q:=botT l) (fun c hc=>by
  have:=qrp hc
  simpa using this)).1]
 simp
def sR (r:Rat):ByteArray:=⟨(rT r).toArray⟩
theorem qog (r:Rat):(sR r).data.toList=rT r:=rfl
theorem sR_of {a:ByteArray} (h:a.data.toList=rT r):a=sR r:=ByteArray.ext (Array.ext' (by rw [h,qog]))
theorem sR_int (z:Int):sR (z:Rat)=sI z:=sI_of (by rw [qog];unfold rT;rw [Rat.den_intCast,if_pos rfl,Rat.num_intCast])
theorem SzR.pos (h:SzR k r):0<k:=by
 rcases Nat.eq_zero_or_pos k with rfl | h1
 ·have h2:=h.2
  have h3:=r.den_pos;simp at h2;omega
 ·exact h1
theorem SzR.len (h:SzR k r):(sR r).size≤2*k+2:=by
 rw [← q1y,qog];have h1:=qc3 r.num;have h2:=(q4q h.pos).2 h.1;have h3:=(q4q h.pos).2 h.2;unfold rT
 split
 ·omega
 ·simp
  omega
theorem qsp (r:Rat):(⟨(topT (sR r).data.toList).toArray⟩:ByteArray)=sI r.num:=by rw [qog,(qkq r).1];rfl
theorem q1j (r:Rat):(⟨(botT (sR r).data.toList).toArray⟩:ByteArray)=sI (r.den:Int):=by rw [qog,(qkq r).2.1,← qeb];rfl
theorem qpr {s:ByteArray} (h:s=sR r) (hs:s.size≤k) (hk:0<k):SzR k r:=by
 subst h;have h1:(rT r).length≤k:=by rw [← qog,q1y];exact hs
 have hn:(Lib.decDigits r.num.natAbs).length≤(Lib.itoa r.num).length:=by
  by_cases h:r.num<0
  ·rw [qc7 h];simp
  ·rw [qca o_];exact Nat.le_refl _
 unfold rT at h1
 split at h1
 ·rename_i hd
  refine ⟨(q4q hk).1 o_,?_⟩
  rw [hd];exact Nat.one_lt_pow o_ o_
 ·simp at h1
  exact ⟨(q4q hk).1 o_,(q4q hk).1 o_⟩
theorem is_one (s:ByteArray):(s.toList == [49])=decide (s.data.toList=[49]):=by
 rw [ByteArray.toList_eq,Bool.eq_iff_iff];simp
theorem qf8 (z:Int):((sI z).toList == [49])=decide (z=1):=by
 rw [is_one,qoc,decide_eq_decide];exact ⟨fun h=>qc2 (h.trans qc9.symm),fun h=>by rw [h,qc9]⟩
theorem qoi (h:r.den=1):sR r=sI r.num:=sI_of (by rw [qog];unfold rT;rw [if_pos h])
theorem qoh (h:r.den≠1):sI r.num ++ ⟨#[47]⟩ ++ sI (r.den:Int)=sR r:=sR_of (by
 unfold rT;rw [if_neg h];simp [qoc,qeb])
theorem SzR.mix {m n:Nat} {a b v:Rat} (ha:SzR k a) (hb:SzR m b) (hv:SzR n v):SzR (k+(m+k+1+n)+1) (mixR a b v):=ha.add ((hb.sub ha).mul hv)
end Go.Proofs.YtabhjdmmfdfpeaaGreatDoor
