/- Lemmas. -/
import Derived.Test.YtabhjdmmfdfpeaaGreatDoorKQuo
import Derived.Shelf.GgClosure.StringsIndexFuncTop
import Derived.Lib.MapLaws
namespace Go.Proofs.YtabhjdmmfdfpeaaGreatDoor
set_option maxHeartbeats 32000000
open _root_.Go.Proofs.Tryz
open Go.RowKit
variable {x:Int} {r:Rat}
def InL (r:Rat):Prop:=0≤r∧r≤65535
instance (r:Rat):Decidable (InL r):=by unfold InL;infer_instance
def errLv (s:BT):Int:=if chkR s≠0 then chkR s else if InL (valR s) then 0 else 2
theorem q8x {z:Int} (h:(z:Rat)≤r):z≤r.floor:=by
 obtain ⟨_,h2⟩:=q8t r
 have:(z:Rat)<((r.floor+1:Int):Rat):=by
  rw [Rat.intCast_add];have c1:((1:Int):Rat)=1:=rfl;rw [c1]
  grind
 have:=q26.1 this
 omega
theorem qq8 (h:Fit x):smallT (sI x).data.toList=if -9223372036854775808≤x∧x≤9223372036854775807 then (x,0) else (0,2):=by
 unfold smallT;rw [if_neg (by simpa using q31 h),qz1]
theorem qqb (h:Fit x) (w:World) (hr:Rng w) :
  Rt 268 #[.string (sI x)] w (.tuple #[.int .i64 (smallT (sI x).data.toList).1,.int .i64 (smallT (sI x).data.toList).2]) :=
 qq9 (sI x) w (Nat.le_trans (qod h) d_) hr
theorem qct (s:ByteArray) (hs:s.size≤1000):(chkR s.data.toList≠0∧errLv s.data.toList=chkR s.data.toList) ∨
  (∃ r,s=sR r∧SzR 1000 r∧valR s.data.toList=r∧chkR s.data.toList=0∧((¬ InL r∧errLv s.data.toList=2)∨(InL r∧errLv s.data.toList=0))):=by
 unfold errLv
 by_cases hc:chkR s.data.toList=0
 ·obtain ⟨e,_⟩:=q34 hc
  have hs':=sR_of e;refine .inr ⟨valR s.data.toList,hs',qpr hs' hs o_,rfl,hc,?_⟩
  rw [if_neg (by simpa using hc)]
  by_cases h:InL (valR s.data.toList)
  ·rw [if_pos h];exact .inr ⟨h,rfl⟩
  ·rw [if_neg h];exact .inl ⟨h,rfl⟩
 ·exact .inl ⟨hc,by rw [if_pos hc]⟩
theorem qrk:SzR 1 0:=by
 unfold SzR
 decide
theorem qdt:((65535:Int):Rat)=65535:=rfl
theorem sz_max:SzR 5 ((65535:Int):Rat):=SzR.int d_ o_
theorem qbm:InL r↔(¬ ordR r 0<0∧¬ 0<ordR r ((65535:Int):Rat)):=by
 rw [qfd,qfh,qdt];exact ⟨fun h=>⟨Rat.not_lt.2 h.1,Rat.not_lt.2 h.2⟩,fun h=>⟨Rat.not_lt.1 h.1,Rat.not_lt.1 h.2⟩⟩
end Go.Proofs.YtabhjdmmfdfpeaaGreatDoor
