/- Lemmas. -/
import Derived.Test.YtabhjdmmfdfpeaaGreatDoorMLaw
namespace Go.Proofs.YtabhjdmmfdfpeaaGreatDoor
set_option maxHeartbeats 32000000
open _root_.Go.Proofs.Tryz

section
open Go.RowKit
theorem qsq {c:UInt8} {t:BT}:topT (c :: t)=if c=47 then [] else c :: topT t:=by
 unfold topT
 by_cases h:c=47
 ·subst h;rfl
 ·rw [if_neg h,List.takeWhile_cons_of_pos (by simp [h])]
theorem qst:∀ (l:BT),(topT l).length≤l.length
 | []=>Nat.le_refl _
 | c :: t=>by
  rw [qsq]
  split
  ·simp
  ·have:=qst t;simp;omega
theorem qsr:∀ (l:BT) (i:Nat) (h:i<l.length),(∀ j (hj:j<l.length),j<i→l[j]≠47)→l[i]=47→(topT l).length=i
 | c :: t,0,_,_,h0=>by
  have:c=47:=h0
  rw [qsq,if_pos this];rfl
 | c :: t,i+1,h,hall,h0=>by
  have h1:c≠47:=hall 0 (by simp) (by omega)
  rw [qsq,if_neg h1]
  have:=qsr t i (by simpa using h) (fun j hj hji=>by have:=hall (j+1) (by simpa using hj) (by omega);simpa using this) (by simpa using h0)
  simp [this]
theorem qss (l:BT) (h:∀ j (hj:j<l.length),l[j]≠47):(topT l).length=l.length:=by
 unfold topT;rw [qro];intro c hc;obtain ⟨j,hj,rfl⟩:=List.getElem_of_mem hc;simp [h j hj]
theorem qsw (l:BT):topT l=l.take (topT l).length:=(qru (fun c=>c != 47) l).symm
theorem qpw (l:BT):qpv l=decide ((topT l).length<l.length):=by
 cases h:qpv l
 ·rw [qqj h];simp
 ·have:=qql h
  have h2:=congrArg List.length this;simp at h2;rw [decide_eq_true (by omega)]
theorem q1k {l:BT} (h:qpv l=true):botT l=l.drop ((topT l).length+1):=by
 have:=qql h
 conv=>rhs;rw [this]
 rw [(qsv (p:=topT l) (q:=botT l) (fun c hc=>by
  have:=qrp hc
  simpa using this)).1]
 simp
theorem qqp (s:ByteArray) (w:World) (hs:s.size≤9223372036854775807) :
  Calls prog 81 #[.string s] w fun e w'=>e=.returned (.int .i64 ((topT s.data.toList).length:Int))∧Below w.heap.size w w':=by
 obtain ⟨k,hk⟩:∃ k,k=(topT s.data.toList).length:=⟨_,rfl⟩;have K1:=hj_ (show ∀ i (h:i<s.size),(∀ j (hj:j<s.size),j<i→s[j]≠47)→s[i]=47→k=i from fun i h h1 h2=>by
  rw [hk];exact qsr s.data.toList i (by simpa using h) (fun j hj=>h1 j (by simpa using hj)) h2)
 have K2:=hj_ (show (∀ j (hj:j<s.size),s[j]≠47)→k=s.size from fun h=>by
  rw [hk,qss s.data.toList (fun j hj=>h j (by simpa using hj)),q1y])
 rw [← hk];clear hk
 go_enter func81,ntmps81
 go_wp2
 go_loop [3] (fun v=>∃ i:Nat,i≤s.size∧v=.int .i64 i∧∀ j (hj:j<s.size),j<i→s[j]≠47) (fun v=>s.size-(intOf v).toNat)
 case atStart=>exact ⟨0,Nat.zero_le _,rfl,fun j _ h=>absurd h (by omega)⟩
 case round =>
  obtain ⟨i,hi,rfl,hall⟩:=hrel;have HAll:=hj_ hall;clear hall
  by_cases hlt:i<s.size
  ·by_cases hd:(s[i].toNat:Int)=47
   ·have e1:((s[i].toNat:Int) == 47)=true:=by simpa using hd
    have hv:=K1.out i hlt HAll.out (UInt8.toNat_inj.1 (by show s[i].toNat=47;omega))
    subst hv;clear hd K1 K2;go_wp2;go_ret;exact ⟨rfl,by (repeat' first | exact br_ | assumption | apply Below.drew | apply q18 | refine Below.alloc ?_ ?_ _ | refine Below.setCell ?_ ?_ _ | refine Below.trans ?_ (Below.mono ‹_› ?_) | omega | (simp;omega) | simp)⟩
   ·have e1:((s[i].toNat:Int) == 47)=false:=by simpa using hd
    have HD:=hj_ (show s[i]≠47 from fun h=>hd (by rw [h];rfl))
    clear hd;go_wp2
    go_round
    case rel=>exact ⟨i+1,by omega,by go_num,fun j hj h=>by
     rcases Nat.lt_or_ge j i with h' | h'
     ·exact HAll.out j hj h'
     ·obtain rfl:j=i:=by omega
      exact HD.out⟩
    case measure=>simp [intOf];omega
  ·obtain rfl:i=s.size:=by omega
   have hv:=K2.out (fun j hj=>HAll.out j hj hj)
   subst hv;clear K1 K2;go_wp2;go_ret;exact ⟨rfl,by (repeat' first | exact br_ | assumption | apply Below.drew | apply q18 | refine Below.alloc ?_ ?_ _ | refine Below.setCell ?_ ?_ _ | refine Below.trans ?_ (Below.mono ‹_› ?_) | omega | (simp;omega) | simp)⟩
theorem qrq (s:ByteArray) (k:Nat):(s.extract 0 k).data.toList=s.data.toList.take k:=by
 rw [ByteArray.data_extract,Array.toList_extract,List.extract_eq_take_drop];simp
theorem q6a (s:ByteArray) (k:Nat):(s.extract k s.size).data.toList=s.data.toList.drop k:=by
 rw [ByteArray.data_extract,Array.toList_extract,List.extract_eq_take_drop]
 apply List.take_of_length_le
 simp
theorem qqt (s:ByteArray) (w:World) (hs:s.size≤9223372036854775807) :
  Calls prog 78 #[.string s] w fun e w'=>e=.returned (.string ⟨(topT s.data.toList).toArray⟩)∧Below w.heap.size w w':=by
 have hB:=Below.refl w.heap.size w;have HS:=hj_ (fun w=>qqp s w hs)
 have HE:=hj_ (show s.extract 0 (topT s.data.toList).length=⟨(topT s.data.toList).toArray⟩ from bs_of (by rw [qrq,← qsw]))
 have hle:(topT s.data.toList).length≤s.size:=by rw [← q1y];exact qst _
 generalize (topT s.data.toList).length=k at *
 go_enter func78,ntmps78
 go_wp2_with (go_at_call 81;with_reducible refine up_ (HS.out _) hB ?_;clear hB;intro wk hB);go_ret;exact ⟨by rw [← HE.out];rfl,hB⟩
theorem qom (s:ByteArray) (w:World) (hs:s.size≤9223372036854775807) :
  Calls prog 79 #[.string s] w fun e w'=>e=.returned (.string ⟨(botT s.data.toList).toArray⟩)∧Below w.heap.size w w':=by
 have hB:=Below.refl w.heap.size w;have HS:=hj_ (fun w=>qqp s w hs)
 have hle:(topT s.data.toList).length≤s.size:=by rw [← q1y];exact qst _
 have hsl:=qpw s.data.toList;rw [q1y] at hsl
 by_cases h:(topT s.data.toList).length=s.size
 ·have HE:=hj_ (show (⟨#[49]⟩:ByteArray)=⟨(botT s.data.toList).toArray⟩ by
   unfold botT;rw [hsl,decide_eq_false (by omega)];rfl)
  have g1:(((topT s.data.toList).length:Int) == (s.size:Int))=true:=by rw [h];simp
  clear hsl h;generalize (topT s.data.toList).length=k at *
  go_enter func79,ntmps79
  go_wp2_with (go_at_call 81;with_reducible refine up_ (HS.out _) hB ?_;clear hB;intro wk hB);go_ret;exact ⟨by rw [← HE.out];rfl,hB⟩
 ·have hlt:(topT s.data.toList).length<s.size:=by omega
  have HE:=hj_ (show s.extract ((topT s.data.toList).length+1) s.size=⟨(botT s.data.toList).toArray⟩ from bs_of (by
   rw [q6a,q1k (by rw [hsl,decide_eq_true hlt])]))
  have g1:(((topT s.data.toList).length:Int) == (s.size:Int))=false:=by rw [beq_eq_false_iff_ne];omega
  clear hsl h;generalize (topT s.data.toList).length=k at *
  go_enter func79,ntmps79
  go_wp2_with (go_at_call 81;with_reducible refine up_ (HS.out _) hB ?_;clear hB;intro wk hB);go_ret;exact ⟨by rw [← HE.out];rfl,hB⟩
theorem qqo (s:ByteArray) (w:World) (hs:s.size≤9223372036854775807) :
  Calls prog 80 #[.string s] w fun e w'=>e=.returned (.bool (decide (chkI s.data.toList≠3)))∧Below w.heap.size w w':=by
 have hB:=Below.refl w.heap.size w;have HC:=hj_ (fun w=>ql8 s w hs)
 have hb:(!(chkI s.data.toList == 3))=decide (chkI s.data.toList≠3):=by
  by_cases h:chkI s.data.toList=3 <;> simp [h]
 have HBo:=hj_ hb;generalize chkI s.data.toList=k at *;clear hb
 go_enter func80,ntmps80
 go_wp2_with (go_at_call 125;with_reducible refine up_ (HC.out _) hB ?_;clear hB;intro wk hB);go_ret;exact ⟨by rw [← HBo.out];rfl,hB⟩
end

section
open Go.RowKit
def sR (r:Rat):ByteArray:=⟨(rT r).toArray⟩
theorem qog (r:Rat):(sR r).data.toList=rT r:=rfl
theorem sR_of {a:ByteArray} {r:Rat} (h:a.data.toList=rT r):a=sR r:=ByteArray.ext (Array.ext' (by rw [h,qog]))
theorem sR_int (z:Int):sR (z:Rat)=sI z:=sI_of (by rw [qog];unfold rT;rw [Rat.den_intCast,if_pos rfl,Rat.num_intCast])
theorem sI_len {z:Int} {k:Nat} (h:z.natAbs<10 ^ k) (hk:0<k):(sI z).size≤k+1:=by
 rw [← q1y,qoc]
 have:=qc3 z
 have:=(q4q hk).2 h
 omega
theorem SzR.pos {k:Nat} {r:Rat} (h:SzR k r):0<k:=by
 rcases Nat.eq_zero_or_pos k with rfl | h1
 ·have h2:=h.2
  have h3:=r.den_pos;simp at h2;omega
 ·exact h1
theorem SzR.len {k:Nat} {r:Rat} (h:SzR k r):(sR r).size≤2*k+2:=by
 rw [← q1y,qog];have h1:=qc3 r.num;have h2:=(q4q h.pos).2 h.1;have h3:=(q4q h.pos).2 h.2;unfold rT
 split
 ·omega
 ·simp
  omega
theorem SzR.tops {k:Nat} {r:Rat} (h:SzR k r):(sI r.num).size≤k+1∧(sI (r.den:Int)).size≤k+1 :=
 ⟨sI_len h.1 h.pos,sI_len (by rw [Int.natAbs_natCast];exact h.2) h.pos⟩
theorem qsp (r:Rat):(⟨(topT (sR r).data.toList).toArray⟩:ByteArray)=sI r.num:=by rw [qog,(qkq r).1];rfl
theorem q1j (r:Rat):(⟨(botT (sR r).data.toList).toArray⟩:ByteArray)=sI (r.den:Int):=by rw [qog,(qkq r).2.1,← qeb];rfl
theorem qpr {s:ByteArray} {r:Rat} {k:Nat} (h:s=sR r) (hs:s.size≤k) (hk:0<k):SzR k r:=by
 subst h;have h1:(rT r).length≤k:=by rw [← qog,q1y];exact hs
 have hn:(Lib.decDigits r.num.natAbs).length≤(Lib.itoa r.num).length:=by
  by_cases h:r.num<0
  ·rw [qc7 h];simp
  ·rw [qca (by omega)];exact Nat.le_refl _
 unfold rT at h1
 split at h1
 ·rename_i hd
  refine ⟨(q4q hk).1 (by omega),?_⟩
  rw [hd];exact Nat.one_lt_pow (by omega) (by omega)
 ·simp at h1
  exact ⟨(q4q hk).1 (by omega),(q4q hk).1 (by omega)⟩
theorem qqu {r:Rat} (w:World) (hs:(sR r).size≤9223372036854775807) :
  Calls prog 78 #[.string (sR r)] w fun e w'=>e=.returned (.string (sI r.num))∧Below w.heap.size w w':=by
 have:=qqt (sR r) w hs
 rw [qsp] at this;exact this
theorem qon {r:Rat} (w:World) (hs:(sR r).size≤9223372036854775807) :
  Calls prog 79 #[.string (sR r)] w fun e w'=>e=.returned (.string (sI (r.den:Int)))∧Below w.heap.size w w':=by
 have:=qom (sR r) w hs
 rw [q1j] at this;exact this
end

section
open Go.RowKit
theorem sI_le {a b:Int} (h:a.natAbs≤b.natAbs):(sI a).size≤(sI b).size+1:=by
 have h1:=qc3 a;have h2:=q4r h;have h3:(Lib.decDigits b.natAbs).length≤(sI b).size:=by
  rw [← q1y,qoc]
  by_cases h:b<0
  ·rw [qc7 h];simp
  ·rw [qca (by omega)];exact Nat.le_refl _
 rw [← q1y,qoc];omega
theorem qnd {x y:Int} (w:World) (hx:(sI x).size≤50000) (hy:(sI y).size≤50000) :
  Calls prog 86 #[.string (sI x),.string (sI y)] w fun e w'=>e=.returned (.string (sI (x*y)))∧Below w.heap.size w w':=qne _ _ x y w rfl rfl hx hy
theorem qma {x y z:Int} (w:World) (hx:(sI x).size≤50000) (hy:(sI y).size≤50000) (h0:y≠0) (h:x.fdiv y=z) :
  Calls prog 134 #[.string (sI x),.string (sI y)] w fun e w'=>e=.returned (.string (sI z))∧Below w.heap.size w w':=by
 rw [← h];exact qm8 _ _ x y w rfl rfl hx hy h0
theorem qlb {x y:Int} (w:World) (hx:(sI x).size≤30000) (hy:(sI y).size≤30000) :
  Calls prog 84 #[.string (sI x),.string (sI y)] w fun e w'=>e=.returned (.string (sI ((Nat.gcd x.natAbs y.natAbs:Nat):Int)))∧Below w.heap.size w w':=qla _ _ x y w rfl rfl hx hy
theorem qmw {x y:Int} (w:World) (hx:(sI x).size≤1000000000) (hy:(sI y).size≤1000000000) :
  Calls prog 85 #[.string (sI x),.string (sI y)] w fun e w'=>e=.returned (.int .i64 (x-y).sign)∧Below w.heap.size w w':=qmv _ _ x y w rfl rfl hx hy
theorem qnn {x:Int} (w:World) (hx:(sI x).size≤9223372036854775807) :
  Calls prog 82 #[.string (sI x)] w fun e w'=>e=.returned (.int .i64 x.sign)∧Below w.heap.size w w':=by
 have:=qnm (sI x) w hx
 rw [qoc,qpl] at this;exact this
theorem rneg_s {x:Int} (w:World) (hx:(sI x).size≤1000000000) :
  Calls prog 133 #[.string (sI x)] w fun e w'=>e=.returned (.string (sI (-x)))∧Below w.heap.size w w':=by
 have:=qmr (sI x) w hx
 rw [qoc,qep] at this;exact this
theorem qo9 {x:Int} (h0:-9223372036854775808≤x) (h1:x≤9223372036854775807) (w:World) :
  Calls prog 88 #[.int .i64 x] w fun e w'=>e=.returned (.string (sI x))∧Below w.heap.size w w':=qo8 x h0 h1 w
theorem is_one (s:ByteArray):(s.toList == [49])=decide (s.data.toList=[49]):=by
 rw [ByteArray.toList_eq,Bool.eq_iff_iff];simp
theorem qf8 (z:Int):((sI z).toList == [49])=decide (z=1):=by
 rw [is_one,qoc,decide_eq_decide];exact ⟨fun h=>qc2 (h.trans qc9.symm),fun h=>by rw [h,qc9]⟩
theorem qoi {r:Rat} (h:r.den=1):sR r=sI r.num:=sI_of (by rw [qog];unfold rT;rw [if_pos h])
theorem qoh {r:Rat} (h:r.den≠1):sI r.num ++ ⟨#[47]⟩ ++ sI (r.den:Int)=sR r:=sR_of (by
 unfold rT;rw [if_neg h];simp [qoc,qeb])
theorem qqn {x y:Int} (w:World) (hx:(sI x).size≤30000) (hy:(sI y).size≤30000) (h0:y≠0) :
  Calls prog 87 #[.string (sI x),.string (sI y)] w fun e w'=>e=.returned (.string (sR (Rat.divInt x y)))∧Below w.heap.size w w':=by
 have hB:=Below.refl w.heap.size w;have HC:=hj_ (fun w=>qlb (x:=x) (y:=y) w hx hy)
 have hle:=Nat.gcd_le_right (n:=y.natAbs) x.natAbs (by omega)
 have hg0:=gcd_ne (x:=x) h0;obtain ⟨p1,p2⟩:=qlq (x:=x) h0;obtain ⟨r1,r2⟩:=red_le (x:=x) h0;have n1:(sI (Rat.divInt x y).num).size≤30001:=Nat.le_trans (sI_le (b:=x) r1) (by omega)
 have n2:(sI ((Rat.divInt x y).den:Int)).size≤30001:=Nat.le_trans (sI_le (b:=y) (by omega)) (by omega)
 have hG:redG x y=if y<0 then -(Nat.gcd x.natAbs y.natAbs:Int) else (Nat.gcd x.natAbs y.natAbs:Int):=rfl
 generalize Nat.gcd x.natAbs y.natAbs=g at *;have hgs:(sI (g:Int)).size≤30001:=Nat.le_trans (sI_le (b:=y) (by omega)) (by omega)
 have hgn:(sI (-(g:Int))).size≤30001:=Nat.le_trans (sI_le (b:=y) (by omega)) (by omega)
 have HS:=hj_ (fun w=>qnn (x:=y) w (by omega))
 have HN:=hj_ (fun w=>rneg_s (x:=(g:Int)) w (by omega))
 by_cases hneg:y<0
 ·rw [if_pos hneg] at hG
  rw [hG] at p1 p2;have HF1:=hj_ (fun w=>qma (x:=x) (y:=-(g:Int)) w (by omega) (by omega) (by omega) p1)
  have HF2:=hj_ (fun w=>qma (x:=y) (y:=-(g:Int)) w (by omega) (by omega) (by omega) p2)
  rw [Int.sign_eq_neg_one_of_neg hneg] at HS;generalize Rat.divInt x y=r at *
  by_cases hd:r.den=1
  ·have HV:=hj_ (qoi hd)
   have g1:=qf8 (r.den:Int);rw [decide_eq_true (by omega)] at g1
   clear hle hg0 p1 p2 hG hgs hgn hneg h0 hd r1 r2
   go_enter func87,ntmps87
   go_wp2_with (first | (go_at_call 84;with_reducible refine up_ (HC.out _) hB ?_;clear hB;intro wk hB) | (go_at_call 82;with_reducible refine up_ (HS.out _) hB ?_;clear hB;intro wk hB) | (go_at_call 133;with_reducible refine up_ (HN.out _) hB ?_;clear hB;intro wk hB) | (go_at_call 134;with_reducible refine up_ (HF1.out _) hB ?_;clear hB;intro wk hB) | (go_at_call 134;with_reducible refine up_ (HF2.out _) hB ?_;clear hB;intro wk hB))
   go_ret;exact ⟨by rw [HV.out];rfl,hB⟩
  ·have HV:=hj_ (qoh hd)
   have g1:=qf8 (r.den:Int);rw [decide_eq_false (by omega)] at g1
   clear hle hg0 p1 p2 hG hgs hgn hneg h0 hd r1 r2
   go_enter func87,ntmps87
   go_wp2_with (first | (go_at_call 84;with_reducible refine up_ (HC.out _) hB ?_;clear hB;intro wk hB) | (go_at_call 82;with_reducible refine up_ (HS.out _) hB ?_;clear hB;intro wk hB) | (go_at_call 133;with_reducible refine up_ (HN.out _) hB ?_;clear hB;intro wk hB) | (go_at_call 134;with_reducible refine up_ (HF1.out _) hB ?_;clear hB;intro wk hB) | (go_at_call 134;with_reducible refine up_ (HF2.out _) hB ?_;clear hB;intro wk hB))
   go_ret;exact ⟨by rw [← HV.out];rfl,hB⟩
 ·rw [if_neg hneg] at hG
  rw [hG] at p1 p2;have HF1:=hj_ (fun w=>qma (x:=x) (y:=(g:Int)) w (by omega) (by omega) (by omega) p1)
  have HF2:=hj_ (fun w=>qma (x:=y) (y:=(g:Int)) w (by omega) (by omega) (by omega) p2)
  rw [Int.sign_eq_one_of_pos (by omega)] at HS
  generalize Rat.divInt x y=r at *
  by_cases hd:r.den=1
  ·have HV:=hj_ (qoi hd)
   have g1:=qf8 (r.den:Int);rw [decide_eq_true (by omega)] at g1
   clear hle hg0 p1 p2 hG hgs hgn hneg h0 hd r1 r2 HN
   go_enter func87,ntmps87
   go_wp2_with (first | (go_at_call 84;with_reducible refine up_ (HC.out _) hB ?_;clear hB;intro wk hB) | (go_at_call 82;with_reducible refine up_ (HS.out _) hB ?_;clear hB;intro wk hB) | (go_at_call 134;with_reducible refine up_ (HF1.out _) hB ?_;clear hB;intro wk hB) | (go_at_call 134;with_reducible refine up_ (HF2.out _) hB ?_;clear hB;intro wk hB))
   go_ret;exact ⟨by rw [HV.out];rfl,hB⟩
  ·have HV:=hj_ (qoh hd)
   have g1:=qf8 (r.den:Int);rw [decide_eq_false (by omega)] at g1
   clear hle hg0 p1 p2 hG hgs hgn hneg h0 hd r1 r2 HN
   go_enter func87,ntmps87
   go_wp2_with (first | (go_at_call 84;with_reducible refine up_ (HC.out _) hB ?_;clear hB;intro wk hB) | (go_at_call 82;with_reducible refine up_ (HS.out _) hB ?_;clear hB;intro wk hB) | (go_at_call 134;with_reducible refine up_ (HF1.out _) hB ?_;clear hB;intro wk hB) | (go_at_call 134;with_reducible refine up_ (HF2.out _) hB ?_;clear hB;intro wk hB))
   go_ret;exact ⟨by rw [← HV.out];rfl,hB⟩
theorem qrj {x:Int} (h0:-9223372036854775808≤x) (h1:x≤9223372036854775807) (w:World) :
  Calls prog 48 #[.int .i64 x] w fun e w'=>e=.returned (.string (sR (x:Rat)))∧Below w.heap.size w w':=by
 have hB:=Below.refl w.heap.size w;have HW:=hj_ (fun w=>qo9 h0 h1 w)
 rw [sR_int];clear h0 h1
 go_enter func48,ntmps48
 go_wp2_with (go_at_call 88;with_reducible refine up_ (HW.out _) hB ?_;clear hB;intro wk hB);go_ret;exact ⟨rfl,hB⟩
theorem qqg {k m:Nat} {a b:Rat} (ha:SzR k a) (hb:SzR m b) (w:World) (hk:k≤7000) (hm:m≤7000) :
  Calls prog 46 #[.string (sR a),.string (sR b)] w fun e w'=>e=.returned (.int .i64 (ordR a b))∧Below w.heap.size w w':=by
 have hB:=Below.refl w.heap.size w;have l1:=ha.len;have l2:=hb.len;obtain ⟨t1,t2⟩:=ha.tops;obtain ⟨t3,t4⟩:=hb.tops;obtain ⟨q1,q2,_⟩:=SzR.prods ha hb;have s1:=sI_len q1 (by have:=ha.pos;omega)
 have s2:=sI_len q2 (by have:=ha.pos;omega)
 have HTa:=hj_ (fun w=>qqu (r:=a) w (by omega))
 have HTb:=hj_ (fun w=>qqu (r:=b) w (by omega))
 have HBa:=hj_ (fun w=>qon (r:=a) w (by omega))
 have HBb:=hj_ (fun w=>qon (r:=b) w (by omega))
 have HP:=hj_ (fun w=>qnd (x:=a.num) (y:=(b.den:Int)) w (by omega) (by omega))
 have HQ:=hj_ (fun w=>qnd (x:=b.num) (y:=(a.den:Int)) w (by omega) (by omega))
 have HO:=hj_ (fun w=>qmw (x:=a.num*b.den) (y:=b.num*a.den) w (by omega) (by omega))
 have HV:=hj_ (show ordR a b=(a.num*b.den-b.num*a.den).sign from rfl)
 generalize ordR a b=o at *;generalize a.num*(b.den:Int)=u at *;generalize b.num*(a.den:Int)=v at *;clear ha hb l1 l2 t1 t2 t3 t4 q1 q2 s1 s2 hk hm
 go_enter func46,ntmps46
 go_wp2_with (first | (go_at_call 78;with_reducible refine up_ (HTa.out _) hB ?_;clear hB;intro wk hB) | (go_at_call 78;with_reducible refine up_ (HTb.out _) hB ?_;clear hB;intro wk hB) | (go_at_call 79;with_reducible refine up_ (HBa.out _) hB ?_;clear hB;intro wk hB) | (go_at_call 79;with_reducible refine up_ (HBb.out _) hB ?_;clear hB;intro wk hB) | (go_at_call 86;with_reducible refine up_ (HP.out _) hB ?_;clear hB;intro wk hB) | (go_at_call 86;with_reducible refine up_ (HQ.out _) hB ?_;clear hB;intro wk hB) | (go_at_call 85;with_reducible refine up_ (HO.out _) hB ?_;clear hB;intro wk hB))
 go_ret;exact ⟨by rw [HV.out];rfl,hB⟩
end

section
open Go.RowKit
theorem qti {k m:Nat} {a b:Rat} (ha:SzR k a) (hb:SzR m b) (hk:k≤7000) (hm:m≤7000) :
  (sR a).size≤20000∧(sR b).size≤20000∧(sI a.num).size≤20000∧(sI (a.den:Int)).size≤20000∧(sI b.num).size≤20000∧(sI (b.den:Int)).size≤20000 ∧
  (sI (a.num*b.den)).size≤20000∧(sI (b.num*a.den)).size≤20000∧(sI ((a.den:Int)*b.den)).size≤20000∧(sI (a.num*b.num)).size≤20000 ∧
  (sI (a.num*b.den+b.num*a.den)).size≤20000∧(sI ((a.den:Int)*b.num)).size≤20000:=by
 have l1:=ha.len;have l2:=hb.len;obtain ⟨t1,t2⟩:=ha.tops;obtain ⟨t3,t4⟩:=hb.tops;have p0:=ha.pos;obtain ⟨q1,q2,q3,q4,q5,_,q7⟩:=SzR.prods ha hb;have s1:=sI_len q1 (by omega)
 have s2:=sI_len q2 (by omega)
 have s3:=sI_len q3 (by omega)
 have s4:=sI_len q4 (by omega)
 have s5:=sI_len q5 (by omega)
 have s7:=sI_len q7 (by omega)
 omega
theorem qoo {k m:Nat} {a b:Rat} (ha:SzR k a) (hb:SzR m b) (h0:b≠0) (w:World) (hk:k≤7000) (hm:m≤7000) :
  Calls prog 47 #[.string (sR a),.string (sR b)] w fun e w'=>e=.returned (.string (sR (a / b)))∧Below w.heap.size w w':=by
 have hB:=Below.refl w.heap.size w;obtain ⟨l1,l2,t1,t2,t3,t4,s1,s2,s3,s4,s5,s7⟩:=qti ha hb hk hm;have HTa:=hj_ (fun w=>qqu (r:=a) w (by omega))
 have HTb:=hj_ (fun w=>qqu (r:=b) w (by omega))
 have HBa:=hj_ (fun w=>qon (r:=a) w (by omega))
 have HBb:=hj_ (fun w=>qon (r:=b) w (by omega))
 have HP:=hj_ (fun w=>qnd (x:=a.num) (y:=(b.den:Int)) w (by omega) (by omega))
 have HD:=hj_ (fun w=>qnd (x:=(a.den:Int)) (y:=b.num) w (by omega) (by omega))
 have HR:=hj_ (fun w=>qqn (x:=a.num*b.den) (y:=(a.den:Int)*b.num) w (by omega) (by omega) (Int.mul_ne_zero (by have:=a.den_pos;omega) (num_ne h0)))
 rw [← q5q] at HR;generalize a.num*(b.den:Int)=u at *;generalize (a.den:Int)*b.num=d at *;clear ha hb l1 l2 t1 t2 t3 t4 s1 s2 s3 s4 s5 s7 hk hm h0
 go_enter func47,ntmps47
 go_wp2_with (first | (go_at_call 78;with_reducible refine up_ (HTa.out _) hB ?_;clear hB;intro wk hB) | (go_at_call 78;with_reducible refine up_ (HTb.out _) hB ?_;clear hB;intro wk hB) | (go_at_call 79;with_reducible refine up_ (HBa.out _) hB ?_;clear hB;intro wk hB) | (go_at_call 79;with_reducible refine up_ (HBb.out _) hB ?_;clear hB;intro wk hB) | (go_at_call 86;with_reducible refine up_ (HP.out _) hB ?_;clear hB;intro wk hB) | (go_at_call 86;with_reducible refine up_ (HD.out _) hB ?_;clear hB;intro wk hB) | (go_at_call 87;with_reducible refine up_ (HR.out _) hB ?_;clear hB;intro wk hB))
 go_ret;exact ⟨rfl,hB⟩
theorem SzR.mix {k m n:Nat} {a b v:Rat} (ha:SzR k a) (hb:SzR m b) (hv:SzR n v):SzR (k+(m+k+1+n)+1) (mixR a b v):=ha.add ((hb.sub ha).mul hv)
end

section
open Go.RowKit
theorem qot (s:ByteArray) (w:World) (hs:s.size≤1000000000) :
  Calls prog 45 #[.string s] w fun e w'=>e=.returned (.int .i64 (chkR s.data.toList))∧Below w.heap.size w w':=by
 have hB:=Below.refl w.heap.size w;obtain ⟨P,hP⟩:∃ P:ByteArray,P=⟨(topT s.data.toList).toArray⟩:=⟨_,rfl⟩;obtain ⟨Q,hQ⟩:∃ Q:ByteArray,Q=⟨(botT s.data.toList).toArray⟩:=⟨_,rfl⟩;have lP:P.data.toList=topT s.data.toList:=by rw [hP]
 have lQ:Q.data.toList=botT s.data.toList:=by rw [hQ]
 have hb:(botT s.data.toList).length≤s.size+1:=by
  cases h:qpv s.data.toList
  ·unfold botT;rw [h];simp
  ·rw [q1k h,List.length_drop,q1y];omega
 have zP:P.size≤1000000001:=by rw [← q1y,lP];have:=qst s.data.toList;rw [q1y] at this;omega
 have zQ:Q.size≤1000000001:=by rw [← q1y,lQ];omega
 have HT:=hj_ (fun w=>qqt s w (by omega))
 have HQ:=hj_ (fun w=>qom s w (by omega))
 rw [← hP] at HT;rw [← hQ] at HQ;have hA:=fun w=>qqo P w (by omega)
 have hBb:=fun w=>qqo Q w (by omega)
 rw [lP] at hA;rw [lQ] at hBb;clear hb
 by_cases c1:chkI (topT s.data.toList)=3
 ·have HV:=hj_ (show chkR s.data.toList=3 by unfold chkR;rw [if_pos (.inl c1)])
  simp only [c1,ne_eq,not_true_eq_false,decide_false] at hA;have HA:=hj_ hA;have HB:=HA;clear hA hBb hP hQ lP lQ zP zQ c1
  go_enter func45,ntmps45
  go_wp2_with (first | (go_at_call 78;with_reducible refine up_ (HT.out _) hB ?_;clear hB;intro wk hB) | (go_at_call 79;with_reducible refine up_ (HQ.out _) hB ?_;clear hB;intro wk hB) | (go_at_call 80;with_reducible refine up_ (HA.out _) hB ?_;clear hB;intro wk hB) | (go_at_call 80;with_reducible refine up_ (HB.out _) hB ?_;clear hB;intro wk hB))
  go_ret;exact ⟨by rw [HV.out];rfl,hB⟩
 by_cases c2:chkI (botT s.data.toList)=3
 ·have HV:=hj_ (show chkR s.data.toList=3 by unfold chkR;rw [if_pos (.inr c2)])
  simp only [decide_eq_true c1] at hA;simp only [c2,ne_eq,not_true_eq_false,decide_false] at hBb;have HA:=hj_ hA;have HB:=hj_ hBb;clear hA hBb hP hQ lP lQ zP zQ c1 c2
  go_enter func45,ntmps45
  go_wp2_with (first | (go_at_call 78;with_reducible refine up_ (HT.out _) hB ?_;clear hB;intro wk hB) | (go_at_call 79;with_reducible refine up_ (HQ.out _) hB ?_;clear hB;intro wk hB) | (go_at_call 80;with_reducible refine up_ (HA.out _) hB ?_;clear hB;intro wk hB) | (go_at_call 80;with_reducible refine up_ (HB.out _) hB ?_;clear hB;intro wk hB))
  go_ret;exact ⟨by rw [HV.out];rfl,hB⟩
 obtain ⟨x,hx⟩:=q2x c1;obtain ⟨y,hy⟩:=q2x c2;simp only [decide_eq_true c1] at hA;simp only [decide_eq_true c2] at hBb;rw [hx] at lP;rw [hy] at lQ;obtain rfl:=sI_of lP;obtain rfl:=sI_of lQ;have HA:=hj_ hA;have HB:=hj_ hBb;have HL:=hj_ (fun w=>qqp s w (by omega))
 have HS:=hj_ (fun w=>qnn (x:=y) w (by omega))
 have hD:=fun w=>qlg (sI x) w (by omega)
 have hE:=fun w=>qlg (sI y) w (by omega)
 rw [qoc,q1f] at hD hE;have HD:=hj_ hD;have HE:=hj_ hE;have hsl:=qpw s.data.toList;rw [q1y] at hsl;have hkle:=qst s.data.toList;rw [q1y] at hkle;have u1:=qf8 y;have hv:chkR s.data.toList=if qpv s.data.toList=true∧(y≤0∨y=1) then 3 else if 4096<(Lib.decDigits x.natAbs).length∨4096<(Lib.decDigits y.natAbs).length then 23 else if qpv s.data.toList=true∧Nat.gcd x.natAbs y.natAbs≠1 then 3 else 0:=by
  have e1:(Lib.itoa y=[49])↔y=1:=⟨fun h=>qc2 (h.trans qc9.symm),fun h=>by rw [h,qc9]⟩
  unfold chkR;rw [hx,hy,qyz,qyz,q1f,q1f,← hx,← hy,if_neg (by rintro (h | h);exact c1 h;exact c2 h),hy]
  simp only [e1]
 have hfx:¬ 4096<(Lib.decDigits x.natAbs).length→(sI x).size≤5000:=fun h=>Nat.le_trans (qod (q8f.2 h)) (by omega)
 have hfy:¬ 4096<(Lib.decDigits y.natAbs).length→(sI y).size≤5000:=fun h=>Nat.le_trans (qod (q8f.2 h)) (by omega)
 clear hA hBb hP hQ zP zQ hD hE c1 c2 hx;generalize (topT s.data.toList).length=k at *;generalize (Lib.decDigits x.natAbs).length=m at *;generalize (Lib.decDigits y.natAbs).length=n at *;have HV:=hj_ hv;clear hv
 cases hc:qpv s.data.toList
 ·rw [hc] at HV hsl
  have g1:decide (k<s.size)=false:=hsl.symm;have g2:¬ k<s.size:=of_decide_eq_false g1;obtain rfl:k=s.size:=by omega
  clear hsl hkle hc hy u1 hfx hfy g2
  by_cases d1:4096<m
  ·replace HV:=hj_ (HV.out.trans (by rw [if_neg (by simp),if_pos (.inl d1)]))
   go_enter func45,ntmps45
   go_wp2_with (first | (go_at_call 78;with_reducible refine up_ (HT.out _) hB ?_;clear hB;intro wk hB) | (go_at_call 79;with_reducible refine up_ (HQ.out _) hB ?_;clear hB;intro wk hB) | (go_at_call 80;with_reducible refine up_ (HA.out _) hB ?_;clear hB;intro wk hB) | (go_at_call 80;with_reducible refine up_ (HB.out _) hB ?_;clear hB;intro wk hB) | (go_at_call 81;with_reducible refine up_ (HL.out _) hB ?_;clear hB;intro wk hB) | (go_at_call 82;with_reducible refine up_ (HS.out _) hB ?_;clear hB;intro wk hB) | (go_at_call 83;with_reducible refine up_ (HD.out _) hB ?_;clear hB;intro wk hB) | (go_at_call 83;with_reducible refine up_ (HE.out _) hB ?_;clear hB;intro wk hB))
   go_ret;exact ⟨by rw [HV.out];rfl,hB⟩
  by_cases d2:4096<n
  ·replace HV:=hj_ (HV.out.trans (by rw [if_neg (by simp),if_pos (.inr d2)]))
   go_enter func45,ntmps45
   go_wp2_with (first | (go_at_call 78;with_reducible refine up_ (HT.out _) hB ?_;clear hB;intro wk hB) | (go_at_call 79;with_reducible refine up_ (HQ.out _) hB ?_;clear hB;intro wk hB) | (go_at_call 80;with_reducible refine up_ (HA.out _) hB ?_;clear hB;intro wk hB) | (go_at_call 80;with_reducible refine up_ (HB.out _) hB ?_;clear hB;intro wk hB) | (go_at_call 81;with_reducible refine up_ (HL.out _) hB ?_;clear hB;intro wk hB) | (go_at_call 82;with_reducible refine up_ (HS.out _) hB ?_;clear hB;intro wk hB) | (go_at_call 83;with_reducible refine up_ (HD.out _) hB ?_;clear hB;intro wk hB) | (go_at_call 83;with_reducible refine up_ (HE.out _) hB ?_;clear hB;intro wk hB))
   go_ret;exact ⟨by rw [HV.out];rfl,hB⟩
  replace HV:=hj_ (HV.out.trans (by rw [if_neg (by simp),if_neg (by omega),if_neg (by simp)]))
  go_enter func45,ntmps45
  go_wp2_with (first | (go_at_call 78;with_reducible refine up_ (HT.out _) hB ?_;clear hB;intro wk hB) | (go_at_call 79;with_reducible refine up_ (HQ.out _) hB ?_;clear hB;intro wk hB) | (go_at_call 80;with_reducible refine up_ (HA.out _) hB ?_;clear hB;intro wk hB) | (go_at_call 80;with_reducible refine up_ (HB.out _) hB ?_;clear hB;intro wk hB) | (go_at_call 81;with_reducible refine up_ (HL.out _) hB ?_;clear hB;intro wk hB) | (go_at_call 82;with_reducible refine up_ (HS.out _) hB ?_;clear hB;intro wk hB) | (go_at_call 83;with_reducible refine up_ (HD.out _) hB ?_;clear hB;intro wk hB) | (go_at_call 83;with_reducible refine up_ (HE.out _) hB ?_;clear hB;intro wk hB))
  go_ret;exact ⟨by rw [HV.out];rfl,hB⟩
 rw [hc] at HV hsl;have g1:decide (k<s.size)=true:=hsl.symm;have g2:k<s.size:=of_decide_eq_true g1;clear hsl hkle hc hy
 by_cases y0:y≤0
 ·replace HV:=hj_ (HV.out.trans (by rw [if_pos ⟨rfl,.inl y0⟩]))
  have hsg:y.sign≤0:=Int.not_lt.1 (fun h=>by have:=Int.sign_pos_iff.1 h;omega)
  generalize y.sign=sg at *;clear u1 hfx hfy y0
  go_enter func45,ntmps45
  go_wp2_with (first | (go_at_call 78;with_reducible refine up_ (HT.out _) hB ?_;clear hB;intro wk hB) | (go_at_call 79;with_reducible refine up_ (HQ.out _) hB ?_;clear hB;intro wk hB) | (go_at_call 80;with_reducible refine up_ (HA.out _) hB ?_;clear hB;intro wk hB) | (go_at_call 80;with_reducible refine up_ (HB.out _) hB ?_;clear hB;intro wk hB) | (go_at_call 81;with_reducible refine up_ (HL.out _) hB ?_;clear hB;intro wk hB) | (go_at_call 82;with_reducible refine up_ (HS.out _) hB ?_;clear hB;intro wk hB))
  go_ret;exact ⟨by rw [HV.out];rfl,hB⟩
 rw [Int.sign_eq_one_of_pos (by omega)] at HS
 by_cases y1:y=1
 ·replace HV:=hj_ (HV.out.trans (by rw [if_pos ⟨rfl,.inr y1⟩]))
  rw [decide_eq_true y1] at u1;clear hfx hfy y0 y1
  go_enter func45,ntmps45
  go_wp2_with (first | (go_at_call 78;with_reducible refine up_ (HT.out _) hB ?_;clear hB;intro wk hB) | (go_at_call 79;with_reducible refine up_ (HQ.out _) hB ?_;clear hB;intro wk hB) | (go_at_call 80;with_reducible refine up_ (HA.out _) hB ?_;clear hB;intro wk hB) | (go_at_call 80;with_reducible refine up_ (HB.out _) hB ?_;clear hB;intro wk hB) | (go_at_call 81;with_reducible refine up_ (HL.out _) hB ?_;clear hB;intro wk hB) | (go_at_call 82;with_reducible refine up_ (HS.out _) hB ?_;clear hB;intro wk hB))
  go_ret;exact ⟨by rw [HV.out];rfl,hB⟩
 rw [decide_eq_false y1] at u1
 by_cases d1:4096<m
 ·replace HV:=hj_ (HV.out.trans (by rw [if_neg (by omega),if_pos (.inl d1)]))
  clear hfx hfy y0 y1
  go_enter func45,ntmps45
  go_wp2_with (first | (go_at_call 78;with_reducible refine up_ (HT.out _) hB ?_;clear hB;intro wk hB) | (go_at_call 79;with_reducible refine up_ (HQ.out _) hB ?_;clear hB;intro wk hB) | (go_at_call 80;with_reducible refine up_ (HA.out _) hB ?_;clear hB;intro wk hB) | (go_at_call 80;with_reducible refine up_ (HB.out _) hB ?_;clear hB;intro wk hB) | (go_at_call 81;with_reducible refine up_ (HL.out _) hB ?_;clear hB;intro wk hB) | (go_at_call 82;with_reducible refine up_ (HS.out _) hB ?_;clear hB;intro wk hB) | (go_at_call 83;with_reducible refine up_ (HD.out _) hB ?_;clear hB;intro wk hB) | (go_at_call 83;with_reducible refine up_ (HE.out _) hB ?_;clear hB;intro wk hB))
  go_ret;exact ⟨by rw [HV.out];rfl,hB⟩
 by_cases d2:4096<n
 ·replace HV:=hj_ (HV.out.trans (by rw [if_neg (by omega),if_pos (.inr d2)]))
  clear hfx hfy y0 y1
  go_enter func45,ntmps45
  go_wp2_with (first | (go_at_call 78;with_reducible refine up_ (HT.out _) hB ?_;clear hB;intro wk hB) | (go_at_call 79;with_reducible refine up_ (HQ.out _) hB ?_;clear hB;intro wk hB) | (go_at_call 80;with_reducible refine up_ (HA.out _) hB ?_;clear hB;intro wk hB) | (go_at_call 80;with_reducible refine up_ (HB.out _) hB ?_;clear hB;intro wk hB) | (go_at_call 81;with_reducible refine up_ (HL.out _) hB ?_;clear hB;intro wk hB) | (go_at_call 82;with_reducible refine up_ (HS.out _) hB ?_;clear hB;intro wk hB) | (go_at_call 83;with_reducible refine up_ (HD.out _) hB ?_;clear hB;intro wk hB) | (go_at_call 83;with_reducible refine up_ (HE.out _) hB ?_;clear hB;intro wk hB))
  go_ret;exact ⟨by rw [HV.out];rfl,hB⟩
 have z1:=hfx d1;have z2:=hfy d2;have HC:=hj_ (fun w=>qlb (x:=x) (y:=y) w (by omega) (by omega))
 have u2:=qf8 (Nat.gcd x.natAbs y.natAbs:Int)
 by_cases hg:Nat.gcd x.natAbs y.natAbs=1
 ·replace HV:=hj_ (HV.out.trans (by rw [if_neg (by omega),if_neg (by omega),if_neg (by omega)]))
  rw [decide_eq_true (by omega)] at u2
  generalize ((Nat.gcd x.natAbs y.natAbs:Nat):Int)=G at *;have u3:((sI G).toList != [49])=false:=by rw [bne,u2];rfl
  clear hfx hfy y0 y1 hg z1 z2
  go_enter func45,ntmps45
  go_wp2_with (first | (go_at_call 78;with_reducible refine up_ (HT.out _) hB ?_;clear hB;intro wk hB) | (go_at_call 79;with_reducible refine up_ (HQ.out _) hB ?_;clear hB;intro wk hB) | (go_at_call 80;with_reducible refine up_ (HA.out _) hB ?_;clear hB;intro wk hB) | (go_at_call 80;with_reducible refine up_ (HB.out _) hB ?_;clear hB;intro wk hB) | (go_at_call 81;with_reducible refine up_ (HL.out _) hB ?_;clear hB;intro wk hB) | (go_at_call 82;with_reducible refine up_ (HS.out _) hB ?_;clear hB;intro wk hB) | (go_at_call 83;with_reducible refine up_ (HD.out _) hB ?_;clear hB;intro wk hB) | (go_at_call 83;with_reducible refine up_ (HE.out _) hB ?_;clear hB;intro wk hB) | (go_at_call 84;with_reducible refine up_ (HC.out _) hB ?_;clear hB;intro wk hB))
  go_ret;exact ⟨by rw [HV.out];rfl,hB⟩
 replace HV:=hj_ (HV.out.trans (by rw [if_neg (by omega),if_neg (by omega),if_pos ⟨rfl,hg⟩]))
 rw [decide_eq_false (by omega)] at u2
 generalize ((Nat.gcd x.natAbs y.natAbs:Nat):Int)=G at *;have u3:((sI G).toList != [49])=true:=by rw [bne,u2];rfl
 clear hfx hfy y0 y1 hg z1 z2
 go_enter func45,ntmps45
 go_wp2_with (first | (go_at_call 78;with_reducible refine up_ (HT.out _) hB ?_;clear hB;intro wk hB) | (go_at_call 79;with_reducible refine up_ (HQ.out _) hB ?_;clear hB;intro wk hB) | (go_at_call 80;with_reducible refine up_ (HA.out _) hB ?_;clear hB;intro wk hB) | (go_at_call 80;with_reducible refine up_ (HB.out _) hB ?_;clear hB;intro wk hB) | (go_at_call 81;with_reducible refine up_ (HL.out _) hB ?_;clear hB;intro wk hB) | (go_at_call 82;with_reducible refine up_ (HS.out _) hB ?_;clear hB;intro wk hB) | (go_at_call 83;with_reducible refine up_ (HD.out _) hB ?_;clear hB;intro wk hB) | (go_at_call 83;with_reducible refine up_ (HE.out _) hB ?_;clear hB;intro wk hB) | (go_at_call 84;with_reducible refine up_ (HC.out _) hB ?_;clear hB;intro wk hB))
 go_ret;exact ⟨by rw [HV.out];rfl,hB⟩
end

end Go.Proofs.YtabhjdmmfdfpeaaGreatDoor
