/- Lemmas. -/
import Derived.Test.YtabhjdmmfdfpeaaGreatDoorMWord
import Derived.BigQuiet
import Derived.Lib.UnsafeStr
namespace Go.Proofs.YtabhjdmmfdfpeaaGreatDoor
set_option maxHeartbeats 32000000
set_option maxRecDepth 100000
open _root_.Go.Proofs.Tryz

section
open Go.RowKit
theorem q1y (s:ByteArray):s.data.toList.length=s.size:=by simp
theorem bs_of {a:ByteArray} {l:BT} (h:a.data.toList=l):a=⟨l.toArray⟩:=by
 obtain ⟨⟨x⟩⟩:=a;simp at h;rw [h]
theorem bs_eq {a b:ByteArray} (h:a.data.toList=b.data.toList):a=b:=ByteArray.ext (Array.ext' h)
theorem qen (s:ByteArray) (h:0<s.size):negT s.data.toList=true↔(s[0].toNat:Int)=45:=by
 have hh:s.data.toList.head? = some s[0]:=by
  rw [List.head?_eq_getElem?,List.getElem?_eq_getElem (by simpa using h)];rfl
 generalize s[0]=c at *
 cases hl:s.data.toList with
 | nil=>rw [hl] at hh;cases hh
 | cons x t =>
  rw [hl] at hh
  injection hh with hh
  subst hh
  constructor
  ·intro hn
   by_cases hx:x=45
   ·subst hx;rfl
   ·rw [qei hx] at hn;cases hn
  ·intro hx
   have:x=45:=UInt8.toNat_inj.1 (by show x.toNat=45;omega)
   subst this;rfl
theorem qel (s:ByteArray) (h:s.size=0):negT s.data.toList=false∧bodyT s.data.toList=[]:=by
 have:s.data.toList=[]:=List.length_eq_zero_iff.1 (by rw [q1y];exact h)
 rw [this];exact ⟨rfl,rfl⟩
theorem tail1 (s:ByteArray):(s.extract 1 s.size).data.toList=s.data.toList.drop 1:=by
 rw [ByteArray.data_extract,Array.toList_extract,List.extract_eq_take_drop]
 apply List.take_of_length_le
 simp
theorem ql7 (s:ByteArray) (w:World) (hs:s.size≤9223372036854775807) :
  Calls prog 126 #[.string s] w fun e w'=>e=.returned (.string ⟨(bodyT s.data.toList).toArray⟩)∧Below w.heap.size w w':=by
 by_cases h0:0<s.size
 ·have hsp:=qs3 s.data.toList
  by_cases h1:(s[0].toNat:Int)=45
  ·have HB:=hj_ (show s.extract 1 s.size=⟨(bodyT s.data.toList).toArray⟩ from bs_of (by rw [tail1];rw [(qen s h0).2 h1,if_pos rfl] at hsp;generalize s.data.toList=l at *;rw [hsp];rfl))
   have g1:((s[0].toNat:Int) == 45)=true:=by simpa using h1
   clear hsp
   go_enter func126,ntmps126
   go_wp2;go_ret;exact ⟨by rw [← HB.out];rfl,by (repeat' first | exact br_ | assumption | apply Below.drew | apply q18 | refine Below.alloc ?_ ?_ _ | refine Below.setCell ?_ ?_ _ | refine Below.trans ?_ (Below.mono ‹_› ?_) | omega | (simp;omega) | simp)⟩
  ·have hn:negT s.data.toList=false:=by
    cases hh:negT s.data.toList with
    | false=>rfl
    | true=>exact absurd ((qen s h0).1 hh) h1
   have HB:=hj_ (show s=⟨(bodyT s.data.toList).toArray⟩ from bs_of (by rw [hn,if_neg (by simp)] at hsp;exact hsp))
   have g1:((s[0].toNat:Int) == 45)=false:=by simpa using h1
   clear hsp hn
   go_enter func126,ntmps126
   go_wp2;go_ret;exact ⟨by rw [← HB.out];rfl,by (repeat' first | exact br_ | assumption | apply Below.drew | apply q18 | refine Below.alloc ?_ ?_ _ | refine Below.setCell ?_ ?_ _ | refine Below.trans ?_ (Below.mono ‹_› ?_) | omega | (simp;omega) | simp)⟩
 ·have h0':s.size=0:=by omega
  have HB:=hj_ (show s=⟨(bodyT s.data.toList).toArray⟩ from bs_of (by rw [(qel s h0').2];exact List.length_eq_zero_iff.1 (by rw [q1y];exact h0')))
  go_enter func126,ntmps126
  go_wp2;go_ret;exact ⟨by rw [← HB.out];rfl,by (repeat' first | exact br_ | assumption | apply Below.drew | apply q18 | refine Below.alloc ?_ ?_ _ | refine Below.setCell ?_ ?_ _ | refine Below.trans ?_ (Below.mono ‹_› ?_) | omega | (simp;omega) | simp)⟩
theorem qbx (s:ByteArray):(s.toList == [48])=decide (s.data.toList=[48]):=by
 rw [ByteArray.toList_eq,Bool.eq_iff_iff];simp
def sgnT (s:BT):Int:=if s=[48] then 0 else if negT s=true then -1 else 1
theorem qpl (z:Int):sgnT (Lib.itoa z)=z.sign:=by
 unfold sgnT;rw [qeg]
 by_cases h0:z=0
 ·rw [if_pos (qc0.2 h0),h0];rfl
 ·rw [if_neg (fun h=>h0 (qc0.1 h))]
  by_cases h:z<0
  ·rw [decide_eq_true h,if_pos rfl,Int.sign_eq_neg_one_of_neg h]
  ·rw [decide_eq_false h,if_neg (by simp),Int.sign_eq_one_of_pos (by omega)]
def qeo (s:BT):BT:=if s=[48] then s else if negT s=true then s.drop 1 else 45 :: s
theorem qep (z:Int):qeo (Lib.itoa z)=Lib.itoa (-z):=by
 unfold qeo;rw [qeg]
 by_cases h0:z=0
 ·rw [if_pos (qc0.2 h0),h0];rfl
 ·rw [if_neg (fun h=>h0 (qc0.1 h))]
  by_cases h:z<0
  ·rw [decide_eq_true h,if_pos rfl,qc7 h,qca (by omega),Int.natAbs_neg];rfl
  ·rw [decide_eq_false h,if_neg (by simp),qca (by omega),qc7 (by omega),Int.natAbs_neg]
theorem qlg (s:ByteArray) (w:World) (hs:s.size≤9223372036854775807) :
  Calls prog 83 #[.string s] w fun e w'=>e=.returned (.int .i64 ((bodyT s.data.toList).length:Int))∧Below w.heap.size w w':=by
 have HC:=hj_ (ql7 s w hs);obtain ⟨B,hB⟩:∃ B,B=bodyT s.data.toList:=⟨_,rfl⟩;rw [← hB] at HC ⊢;have hl:(⟨B.toArray⟩:ByteArray).size=B.length:=rfl;clear hB
 go_enter func83,ntmps83
 go_wp2_with (go_at_call 126;refine HC.out.mono ?_;rintro e w1 ⟨rfl,hb1⟩);go_ret;exact ⟨rfl,hb1⟩
theorem qmp (s:ByteArray) (w:World) (hs:s.size≤9223372036854775807) :
  Calls prog 127 #[.string s] w fun e w'=>e=.returned (.string ⟨(bodyT s.data.toList).toArray⟩)∧Below w.heap.size w w':=by
 have HC:=hj_ (ql7 s w hs)
 go_enter func127,ntmps127
 go_wp2_with (go_at_call 126;refine HC.out.mono ?_;rintro e w1 ⟨rfl,hb1⟩);go_ret;exact ⟨rfl,hb1⟩
theorem qnm (s:ByteArray) (w:World) (hs:s.size≤9223372036854775807) :
  Calls prog 82 #[.string s] w fun e w'=>e=.returned (.int .i64 (sgnT s.data.toList))∧Below w.heap.size w w':=by
 by_cases hz:s.data.toList=[48]
 ·have hv:sgnT s.data.toList=0:=by unfold sgnT;rw [if_pos hz]
  rw [hv];obtain rfl:=bs_of hz;clear hz hv
  go_enter func82,ntmps82
  go_wp2;go_ret;exact ⟨rfl,by (repeat' first | exact br_ | assumption | apply Below.drew | apply q18 | refine Below.alloc ?_ ?_ _ | refine Below.setCell ?_ ?_ _ | refine Below.trans ?_ (Below.mono ‹_› ?_) | omega | (simp;omega) | simp)⟩
 ·have hzz:(s.toList == [48])=false:=by rw [qbx,decide_eq_false hz]
  by_cases h0:0<s.size
  ·by_cases h1:(s[0].toNat:Int)=45
   ·have hv:sgnT s.data.toList=-1:=by unfold sgnT;rw [if_neg hz,if_pos ((qen s h0).2 h1)]
    rw [hv];have g1:((s[0].toNat:Int) == 45)=true:=by simpa using h1
    clear hv hz
    go_enter func82,ntmps82
    go_wp2;go_ret;exact ⟨rfl,by (repeat' first | exact br_ | assumption | apply Below.drew | apply q18 | refine Below.alloc ?_ ?_ _ | refine Below.setCell ?_ ?_ _ | refine Below.trans ?_ (Below.mono ‹_› ?_) | omega | (simp;omega) | simp)⟩
   ·have hv:sgnT s.data.toList=1:=by unfold sgnT;rw [if_neg hz,if_neg (fun h=>h1 ((qen s h0).1 h))]
    rw [hv];have g1:((s[0].toNat:Int) == 45)=false:=by simpa using h1
    clear hv hz
    go_enter func82,ntmps82
    go_wp2;go_ret;exact ⟨rfl,by (repeat' first | exact br_ | assumption | apply Below.drew | apply q18 | refine Below.alloc ?_ ?_ _ | refine Below.setCell ?_ ?_ _ | refine Below.trans ?_ (Below.mono ‹_› ?_) | omega | (simp;omega) | simp)⟩
  ·have h0':s.size=0:=by omega
   have hv:sgnT s.data.toList=1:=by unfold sgnT;rw [if_neg hz,(qel s h0').1,if_neg (by simp)]
   rw [hv];clear hv hz
   go_enter func82,ntmps82
   go_wp2;go_ret;exact ⟨rfl,by (repeat' first | exact br_ | assumption | apply Below.drew | apply q18 | refine Below.alloc ?_ ?_ _ | refine Below.setCell ?_ ?_ _ | refine Below.trans ?_ (Below.mono ‹_› ?_) | omega | (simp;omega) | simp)⟩
theorem qmr (s:ByteArray) (w:World) (hs:s.size≤1000000000) :
  Calls prog 133 #[.string s] w fun e w'=>e=.returned (.string ⟨(qeo s.data.toList).toArray⟩)∧Below w.heap.size w w':=by
 by_cases hz:s.data.toList=[48]
 ·have hv:qeo s.data.toList=[48]:=by unfold qeo;rw [if_pos hz,hz]
  rw [hv];obtain rfl:=bs_of hz;clear hz hv
  go_enter func133,ntmps133
  go_wp2;go_ret;exact ⟨rfl,by (repeat' first | exact br_ | assumption | apply Below.drew | apply q18 | refine Below.alloc ?_ ?_ _ | refine Below.setCell ?_ ?_ _ | refine Below.trans ?_ (Below.mono ‹_› ?_) | omega | (simp;omega) | simp)⟩
 ·have hzz:(s.toList == [48])=false:=by rw [qbx,decide_eq_false hz]
  have hcons:(⟨#[45]⟩ ++ s:ByteArray)=⟨(45 :: s.data.toList).toArray⟩:=bs_of (by simp)
  by_cases h0:0<s.size
  ·by_cases h1:(s[0].toNat:Int)=45
   ·have HV:=hj_ (show s.extract 1 s.size=⟨(qeo s.data.toList).toArray⟩ by unfold qeo;rw [if_neg hz,if_pos ((qen s h0).2 h1)];exact bs_of (tail1 s))
    have g1:((s[0].toNat:Int) == 45)=true:=by simpa using h1
    clear hz hcons
    go_enter func133,ntmps133
    go_wp2;go_ret;exact ⟨by rw [← HV.out];rfl,by (repeat' first | exact br_ | assumption | apply Below.drew | apply q18 | refine Below.alloc ?_ ?_ _ | refine Below.setCell ?_ ?_ _ | refine Below.trans ?_ (Below.mono ‹_› ?_) | omega | (simp;omega) | simp)⟩
   ·have HV:=hj_ (show (⟨#[45]⟩ ++ s:ByteArray)=⟨(qeo s.data.toList).toArray⟩ by unfold qeo;rw [if_neg hz,if_neg (fun h=>h1 ((qen s h0).1 h))];exact hcons)
    have g1:((s[0].toNat:Int) == 45)=false:=by simpa using h1
    clear hz hcons
    go_enter func133,ntmps133
    go_wp2;go_ret;exact ⟨by rw [← HV.out];rfl,by (repeat' first | exact br_ | assumption | apply Below.drew | apply q18 | refine Below.alloc ?_ ?_ _ | refine Below.setCell ?_ ?_ _ | refine Below.trans ?_ (Below.mono ‹_› ?_) | omega | (simp;omega) | simp)⟩
  ·have h0':s.size=0:=by omega
   have HV:=hj_ (show (⟨#[45]⟩ ++ s:ByteArray)=⟨(qeo s.data.toList).toArray⟩ by unfold qeo;rw [if_neg hz,(qel s h0').1,if_neg (by simp)];exact hcons)
   clear hz hcons
   go_enter func133,ntmps133
   go_wp2;go_ret;exact ⟨by rw [← HV.out];rfl,by (repeat' first | exact br_ | assumption | apply Below.drew | apply q18 | refine Below.alloc ?_ ?_ _ | refine Below.setCell ?_ ?_ _ | refine Below.trans ?_ (Below.mono ‹_› ?_) | omega | (simp;omega) | simp)⟩
theorem qnl (s:ByteArray) (w:World) (hs:s.size≤9223372036854775807) :
  Calls prog 189 #[.string s] w fun e w'=>e=.returned (.bool (decide (s.size≤17)))∧Below w.heap.size w w':=by
 have hd:decide ((s.size:Int)≤17)=decide (s.size≤17):=by rw [decide_eq_decide];omega
 rw [← hd];clear hd
 go_enter func189,ntmps189
 go_wp2;go_ret;exact ⟨rfl,by (repeat' first | exact br_ | assumption | apply Below.drew | apply q18 | refine Below.alloc ?_ ?_ _ | refine Below.setCell ?_ ?_ _ | refine Below.trans ?_ (Below.mono ‹_› ?_) | omega | (simp;omega) | simp)⟩
end

section
open Go.RowKit
theorem qat (s:ByteArray) (h:0<s.size):s.data.toList.head? = some s[0]:=by
 rw [List.head?_eq_getElem?,List.getElem?_eq_getElem (by simpa using h)];rfl
theorem dg_int (c:UInt8):isDg c=true↔¬ ((c.toNat:Int)<48)∧¬ (57<(c.toNat:Int)):=by rw [qbv];omega
theorem q1i (s:BT):s.length=(bodyT s).length+(if negT s then 1 else 0):=by
 conv=>lhs;rw [qs3 s]
 cases negT s <;> simp
theorem q36 {s:BT} {c:UInt8} (h:(bodyT s).head? = some c) :
  (((c.toNat:Int)=48∧1<s.length)→chkI s=3)∧(¬ Dgs (bodyT s)→chkI s=3)∧(¬ ((c.toNat:Int)=48∧1<s.length)→Dgs (bodyT s)→chkI s=if 4096<(bodyT s).length then 23 else 0):=by
 have hne:bodyT s≠[]:=by intro e;rw [e] at h;cases h
 have hl:0<(bodyT s).length:=List.length_pos_iff.2 hne;have hb:=q1i s;have hc:(bodyT s).head? = some 48↔(c.toNat:Int)=48:=by
  rw [h,Option.some.injEq,← UInt8.toNat_inj];show c.toNat=48↔_;omega
 have hlen:1<s.length↔(1<(bodyT s).length∨negT s=true):=by
  rw [hb]
  cases negT s <;> simp <;> omega
 have h48:((c.toNat:Int)=48∧1<s.length)↔((bodyT s).head? = some 48∧(1<(bodyT s).length∨negT s=true)):=by rw [hc,hlen]
 rw [h48];unfold chkI;refine ⟨fun h1=>if_pos (.inr (.inr h1)),fun h2=>if_pos (.inr (.inl h2)),fun h1 h2=>if_neg ?_⟩
 rintro (h | h | h)
 ·exact hne h
 ·exact h h2
 ·exact h1 h
theorem ql8 (s:ByteArray) (w:World) (hs:s.size≤9223372036854775807) :
  Calls prog 125 #[.string s] w fun e w'=>e=.returned (.int .i64 (chkI s.data.toList))∧Below w.heap.size w w':=by
 have HC:=hj_ (ql7 s w (by omega))
 have hbl:=q1i s.data.toList;rw [q1y] at hbl;obtain ⟨b,hb⟩:∃ b:ByteArray,b=⟨(bodyT s.data.toList).toArray⟩:=⟨_,rfl⟩;have hbd:b.data.toList=bodyT s.data.toList:=by rw [hb]
 have hbs:b.size=(bodyT s.data.toList).length:=by rw [← hbd];simp
 have hsm:b.size≤9223372036854775807:=by rw [hbs];split at hbl <;> omega
 rw [← hb] at HC;clear hb
 by_cases h0:0<b.size
 ·have hh:=qat b h0
  rw [hbd] at hh;obtain ⟨k1,k2,k3⟩:=q36 hh;rw [q1y] at k1 k3;rw [← hbd] at k2 k3;rw [q1y] at k3;generalize chkI s.data.toList=k at *;have g0:((b.size:Int) == 0)=false:=by rw [beq_eq_false_iff_ne];omega
  clear hbl hbs hh hbd
  by_cases h1:(b[0].toNat:Int)=48∧1<s.size
  ·obtain ⟨h2,h3⟩:=h1
   obtain rfl:=k1 ⟨h2,h3⟩;have g1:((b[0].toNat:Int) == 48)=true:=by simpa using h2
   have g2:decide ((1:Int)<(s.size:Int))=true:=by simp;omega
   clear h2 h3 k1 k2 k3
   go_enter func125,ntmps125
   go_wp2_with (go_at_call 126;refine HC.out.mono ?_;rintro e w1 ⟨rfl,hb1⟩);go_ret;exact ⟨rfl,hb1⟩
  ·have K2:=hj_ k2
   have K3:=hj_ (k3 h1);clear k1 k2 k3
   go_enter func125,ntmps125
   go_wp2_with fail;refine HC.out.mono ?_;rintro e w1 ⟨rfl,hb1⟩
   by_cases h2:(b[0].toNat:Int)=48
   ·have g1:((b[0].toNat:Int) == 48)=true:=by simpa using h2
    have g2:decide ((1:Int)<(s.size:Int))=false:=by simp;omega
    clear h1 h2;go_wp2_with fail
    go_loop [4] (fun v=>∃ i:Nat,i≤b.size∧v=.int .i64 i∧∀ j (hj:j<b.size),j<i→isDg b[j]=true) (fun v=>b.size-(intOf v).toNat)
    case atStart=>exact ⟨0,Nat.zero_le _,rfl,fun j _ h=>absurd h (by omega)⟩
    case round =>
     obtain ⟨i,hi,rfl,hall⟩:=hrel;have HAll:=hj_ hall;clear hall
     by_cases hlt:i<b.size
     ·by_cases hd:isDg b[i]=true
      ·have HD:=hj_ hd
       obtain ⟨d1,d2⟩:=(dg_int b[i]).1 hd;have e1:decide ((b[i].toNat:Int)<48)=false:=by simpa using d1
       have e2:decide ((57:Int)<(b[i].toNat:Int))=false:=by simpa using d2
       clear hd d1 d2;go_wp2
       go_round
       case rel=>exact ⟨i+1,by omega,by go_num,fun j hj h=>by
        rcases Nat.lt_or_ge j i with h' | h'
        ·exact HAll.out j hj h'
        ·obtain rfl:j=i:=by omega
         exact HD.out⟩
       case measure=>simp [intOf];omega
      ·have hk:k=3:=K2.out fun h=>hd (h b[i] (by
        have:b.data.toList[i]'(by simpa using hlt)=b[i]:=rfl
        rw [← this];exact List.getElem_mem _))
       subst hk;have hor:(b[i].toNat:Int)<48∨57<(b[i].toNat:Int):=Classical.byContradiction fun h=>hd ((dg_int b[i]).2 (not_or.1 h))
       clear hd K2 K3
       by_cases e1:(b[i].toNat:Int)<48
       ·clear hor
        go_wp2;go_ret;exact ⟨rfl,hb1⟩
       ·have e2:=hor.resolve_left e1
        clear hor;go_wp2;go_ret;exact ⟨rfl,hb1⟩
     ·obtain rfl:i=b.size:=by omega
      have hdg:Dgs b.data.toList:=fun c hc=>by
       obtain ⟨j,hj,rfl⟩:=List.getElem_of_mem hc;have hj':j<b.size:=by simpa using hj
       exact HAll.out j hj' hj'
      have hk:=K3.out hdg;clear K2 K3 hdg HAll
      by_cases hm:4096<b.size
      ·rw [if_pos hm] at hk
       subst hk;have e1:decide ((4096:Int)<(b.size:Int))=true:=by simp;omega
       go_wp2;go_ret;exact ⟨rfl,hb1⟩
      ·rw [if_neg hm] at hk
       subst hk;have e1:decide ((4096:Int)<(b.size:Int))=false:=by simp;omega
       go_wp2;go_ret;exact ⟨rfl,hb1⟩
   ·have g1:((b[0].toNat:Int) == 48)=false:=by simpa using h2
    clear h1 h2;go_wp2_with fail
    go_loop [4] (fun v=>∃ i:Nat,i≤b.size∧v=.int .i64 i∧∀ j (hj:j<b.size),j<i→isDg b[j]=true) (fun v=>b.size-(intOf v).toNat)
    case atStart=>exact ⟨0,Nat.zero_le _,rfl,fun j _ h=>absurd h (by omega)⟩
    case round =>
     obtain ⟨i,hi,rfl,hall⟩:=hrel;have HAll:=hj_ hall;clear hall
     by_cases hlt:i<b.size
     ·by_cases hd:isDg b[i]=true
      ·have HD:=hj_ hd
       obtain ⟨d1,d2⟩:=(dg_int b[i]).1 hd;have e1:decide ((b[i].toNat:Int)<48)=false:=by simpa using d1
       have e2:decide ((57:Int)<(b[i].toNat:Int))=false:=by simpa using d2
       clear hd d1 d2;go_wp2
       go_round
       case rel=>exact ⟨i+1,by omega,by go_num,fun j hj h=>by
        rcases Nat.lt_or_ge j i with h' | h'
        ·exact HAll.out j hj h'
        ·obtain rfl:j=i:=by omega
         exact HD.out⟩
       case measure=>simp [intOf];omega
      ·have hk:k=3:=K2.out fun h=>hd (h b[i] (by
        have:b.data.toList[i]'(by simpa using hlt)=b[i]:=rfl
        rw [← this];exact List.getElem_mem _))
       subst hk;have hor:(b[i].toNat:Int)<48∨57<(b[i].toNat:Int):=Classical.byContradiction fun h=>hd ((dg_int b[i]).2 (not_or.1 h))
       clear hd K2 K3
       by_cases e1:(b[i].toNat:Int)<48
       ·clear hor
        go_wp2;go_ret;exact ⟨rfl,hb1⟩
       ·have e2:=hor.resolve_left e1
        clear hor;go_wp2;go_ret;exact ⟨rfl,hb1⟩
     ·obtain rfl:i=b.size:=by omega
      have hdg:Dgs b.data.toList:=fun c hc=>by
       obtain ⟨j,hj,rfl⟩:=List.getElem_of_mem hc;have hj':j<b.size:=by simpa using hj
       exact HAll.out j hj' hj'
      have hk:=K3.out hdg;clear K2 K3 hdg HAll
      by_cases hm:4096<b.size
      ·rw [if_pos hm] at hk
       subst hk;have e1:decide ((4096:Int)<(b.size:Int))=true:=by simp;omega
       go_wp2;go_ret;exact ⟨rfl,hb1⟩
      ·rw [if_neg hm] at hk
       subst hk;have e1:decide ((4096:Int)<(b.size:Int))=false:=by simp;omega
       go_wp2;go_ret;exact ⟨rfl,hb1⟩
 ·have h0':b.size=0:=by omega
  have hv:chkI s.data.toList=3:=by
   unfold chkI;rw [if_pos (.inl (List.length_eq_zero_iff.1 (by rw [← hbs];exact h0')))]
  rw [hv];clear hv hbs hbd hbl
  go_enter func125,ntmps125
  go_wp2_with (go_at_call 126;refine HC.out.mono ?_;rintro e w1 ⟨rfl,hb1⟩);go_ret;exact ⟨rfl,hb1⟩
end

section
open Go.RowKit
theorem dg_at {t:BT} {b:ByteArray} (hb:b.data.toList=t) (hd:Dgs t) {i:Nat} (h:i<b.size):48≤b[i].toNat∧b[i].toNat≤57:=by
 have hi:i<t.length:=by rw [← hb];simpa using h
 have e:b[i]=t[i]:=by subst hb;rfl
 rw [e];exact qbv.1 (hd _ (List.getElem_mem _))
theorem qrw {t:BT} {b:ByteArray} (hb:b.data.toList=t) {i:Nat} (h:i<b.size):dval (t.take (i+1))=10*dval (t.take i)+(b[i].toNat-48):=by
 have hi:i<t.length:=by rw [← hb];simpa using h
 have e:b[i]=t[i]:=by subst hb;rfl
 rw [q6q t i hi,e]
theorem qrt {t:BT} (hd:Dgs t) (hl:t.length≤17) (i:Nat):dval (t.take i)<10 ^ 17:=by
 refine Nat.lt_of_lt_of_le (q6l (hd.take i)) (Nat.pow_le_pow_right (by omega) ?_)
 rw [List.length_take];omega
theorem qmu (s:ByteArray) (x:Int) (w:World) (hx:s.data.toList=Lib.itoa x) (hs:s.size≤17) :
  Calls prog 130 #[.string s] w fun e w'=>e=.returned (.int .i64 x)∧Below w.heap.size w w':=by
 have hB:=ql7 s w (by omega)
 have hS:=fun w=>qnm s w (by omega)
 rw [hx,q1f] at hB;simp only [hx,qpl] at hS;have hl:(Lib.decDigits x.natAbs).length≤17:=by
  have h1:=q1i s.data.toList;rw [q1y,hx,q1f] at h1
  split at h1 <;> omega
 obtain ⟨t,ht⟩:∃ t,t=Lib.decDigits x.natAbs:=⟨_,rfl⟩;have hd:Dgs t:=by rw [ht];exact q4k _
 have hv:dval t=x.natAbs:=by rw [ht];exact q4y _
 rw [← ht] at hl hB;obtain ⟨b,hb⟩:∃ b:ByteArray,b=⟨t.toArray⟩:=⟨_,rfl⟩;have hbt:b.data.toList=t:=by rw [hb]
 have hbs:b.size=t.length:=by rw [← hbt];simp
 rw [← hb] at hB;have HB:=hj_ hB;have HS:=hj_ hS;have HD:=hj_ hd;have HL:=hj_ hl;have HV:=hj_ hv;have HBt:=hj_ hbt;have HBs:=hj_ hbs;have hsm:b.size≤17:=by omega
 clear hB hS hd hl hv hbt hbs hb ht hx
 go_enter func130,ntmps130
 go_wp2_with fail;refine HB.out.mono ?_;rintro e w1 ⟨rfl,hb1⟩;go_wp2
 go_loop [3,5] (fun n v=>∃ i:Nat,i≤b.size∧v=.int .i64 i∧n=.int .i64 (dval (t.take i))) (fun _ v=>b.size-(intOf v).toNat)
 case atStart=>exact ⟨0,Nat.zero_le _,rfl,rfl⟩
 case round =>
  obtain ⟨i,hi,rfl,rfl⟩:=hrel
  by_cases hlt:i<b.size
  ·obtain ⟨d1,d2⟩:=dg_at HBt.out HD.out hlt
   have HN:=hj_ (qrw HBt.out hlt);have hlt17:=qrt HD.out HL.out i;generalize dval (t.take i)=m at *;go_wp2;refine ⟨⟨i+1,by omega,by go_num,?_⟩,by simp [intOf];omega⟩
   rw [HN.out];congr 1;omega
  ·obtain rfl:i=b.size:=by omega
   have hv2:dval (t.take b.size)=x.natAbs:=by rw [HBs.out,List.take_length];exact HV.out
   rw [hv2];have HV2:=hj_ hv2;clear hv2
   by_cases hx:x<0
   ·have h1:x.sign=-1:=Int.sign_eq_neg_one_of_neg hx
    have h2:((x.natAbs:Nat):Int)=-x:=by omega
    rw [h2];have HS1:=hj_ (HS.out w1);rw [h1] at HS1;have hlt17:=qrt HD.out HL.out b.size;rw [HV2.out] at hlt17;have h3:-100000000000000000<x:=by omega
    have h4:IntKind.i64.wrap (-x)=-x:=by rw [IntKind.wrap_i64];omega
    clear h1 h2 hlt17;go_wp2_with fail;refine HS1.out.mono ?_;rintro e w2 ⟨rfl,hb2⟩;go_wp2;go_ret;exact ⟨qlz (by omega),ht_ hb1 hb2⟩
   ·have h2:((x.natAbs:Nat):Int)=x:=by omega
    obtain ⟨sg,hsg,hs0⟩:∃ sg:Nat,x.sign=sg∧sg≤1:=by
     rcases Int.lt_trichotomy x 0 with h | h | h
     ·exact absurd h hx
     ·exact ⟨0,by rw [h];rfl,by omega⟩
     ·exact ⟨1,by rw [Int.sign_eq_one_of_pos h];rfl,by omega⟩
    rw [h2];have HS1:=hj_ (HS.out w1);rw [hsg] at HS1;clear h2 hx hsg;go_wp2_with fail;refine HS1.out.mono ?_;rintro e w2 ⟨rfl,hb2⟩;go_wp2;go_ret;exact ⟨rfl,ht_ hb1 hb2⟩
theorem q4e {n:Int} (h0:-9223372036854775808≤n) (h1:n≤9223372036854775807):(decZ n.natAbs).length≤19:=by
 unfold decZ
 split
 ·simp
 ·exact (q4q (k:=19) (by omega)).2 (by omega)
theorem tmod10 (k:Int):∃ d:Nat,d<10∧d=k.natAbs % 10∧(k.tmod 10=d∨(k.tmod 10=-(d:Int)∧0<d)):=by
 refine ⟨k.natAbs % 10,by omega,rfl,?_⟩
 rcases Int.lt_or_le k 0 with h | h
 ·have e:k.tmod 10=-((-k).tmod 10):=by rw [Int.neg_tmod];omega
  rw [Int.tmod_eq_emod_of_nonneg (by omega:0≤-k)] at e
  by_cases h0:k.natAbs % 10=0
  ·left;omega
  ·right;omega
 ·left
  rw [Int.tmod_eq_emod_of_nonneg h];omega
theorem conv1 (w:World) (c:UInt8) (v:Int) (hv:v=(c.toNat:Int)) :
  (convert 194 9 (.slice (some ⟨w.heap.size,0,none⟩) 1 1)).run prog (w.alloc (.cells #[.int .u8 v] 5))=.ok (.string ⟨#[c]⟩) (w.alloc (.cells #[.int .u8 v] 5)):=by
 have h:=run_convert_bytes_back (P:=prog) (w.alloc (.cells #[.int .u8 v] 5)) 194 9 5 ⟨w.heap.size,0,none⟩ 1 [c] underlying194 underlying5 underlying9 (fun j hj=>by
  obtain rfl:j=0:=by simpa using hj
  have e:((⟨w.heap.size,0,none⟩:Addr).add 0)=⟨w.heap.size,0,none⟩:=by unfold Addr.add;simp
  rw [e,World.cell?_alloc_new,hv]
  rfl)
 exact h
theorem qo8 (n:Int) (h0:-9223372036854775808≤n) (h1:n≤9223372036854775807) (w:World) :
  Calls prog 88 #[.int .i64 n] w fun e w'=>e=.returned (.string ⟨(Lib.itoa n).toArray⟩)∧Below w.heap.size w w':=by
 by_cases hz:n=0
 ·subst hz
  rw [qcc];clear h0 h1
  go_enter func88,ntmps88
  go_wp2;go_ret;exact ⟨rfl,by (repeat' first | exact br_ | assumption | apply Below.drew | apply q18 | refine Below.alloc ?_ ?_ _ | refine Below.setCell ?_ ?_ _ | refine Below.trans ?_ (Below.mono ‹_› ?_) | omega | (simp;omega) | simp)⟩
 ·have g0:(n == 0)=false:=by simpa using hz
  have HZ:=hj_ hz;have hl20:=q4e h0 h1;clear hz
  go_enter func88,ntmps88
  go_wp2
  go_loopw [3,4] (fun sv kv wr=>∃ (k:Int) (s:ByteArray),kv=.int .i64 k∧sv=.string s∧-9223372036854775808≤k∧k≤9223372036854775807∧decZ n.natAbs=decZ k.natAbs ++ s.data.toList∧Below w.heap.size w wr) (fun _ kv _=>(intOf kv).natAbs)
  case atStart=>exact ⟨n,⟨#[]⟩,rfl,rfl,h0,h1,by simp,br_⟩
  case round =>
   obtain ⟨k,s,rfl,rfl,hk0,hk1,hd,hbw⟩:=hrel;have hs20:s.size≤19:=by
    have:=congrArg List.length hd
    rw [List.length_append,q1y] at this;omega
   have HD:=hj_ hd;have HL20:=hj_ hl20;clear hd hl20
   by_cases hk:k=0
   ·subst hk
    have hsd:s.data.toList=Lib.decDigits n.natAbs:=by
     have:=HD.out
     rw [q4f (by have:=HZ.out;omega),show (0:Int).natAbs=0 from rfl,q4h] at this
     exact this.symm
    by_cases hn:n<0
    ·have HS:=hj_ (show (⟨#[45]⟩ ++ s:ByteArray)=⟨(Lib.itoa n).toArray⟩ from bs_of (by rw [qc7 hn,← hsd];simp))
     clear hsd;go_wp2;go_ret;exact ⟨by rw [← HS.out];rfl,hbw⟩
    ·have HS:=hj_ (show s=⟨(Lib.itoa n).toArray⟩ from bs_of (by rw [qca (by omega),← hsd]))
     have hn':decide (n<0)=false:=by simpa using hn
     clear hsd hn;go_wp2;go_ret;exact ⟨by rw [← HS.out];rfl,hbw⟩
   ·have g1:(k == 0)=false:=by simpa using hk
    have g2:(k != 0)=true:=by simpa using hk
    obtain ⟨d,hd10,hd,hor⟩:=tmod10 k;have hq:(k.tdiv 10).natAbs=k.natAbs / 10:=Int.natAbs_tdiv k 10;have hq0:-9223372036854775808≤k.tdiv 10:=by omega
    have hq1:k.tdiv 10≤9223372036854775807:=by omega
    have hback:=q4b (n:=k.natAbs) (by omega)
    have hlt:(k.tdiv 10).natAbs<k.natAbs:=by omega
    rw [← hd,← hq] at hback;have HBk:=hj_ hback;have HLt:=hj_ hlt;have hcv:∀ v,v=48+(d:Int)→_:=fun v hv=>conv1 wr (dg1 d) v (by rw [q56 hd10];omega)
    have hcv:=hcv _ rfl;have hfin:decZ n.natAbs=decZ (k.tdiv 10).natAbs ++ (⟨#[dg1 d]⟩ ++ s:ByteArray).data.toList:=by
     rw [HD.out,HBk.out,List.append_assoc];simp
    have HFin:=hj_ hfin;clear hfin hback hlt hq hd hk
    rcases hor with hm | ⟨hm,hdp⟩
    ·have g3:decide ((d:Int)<0)=false:=by simp
     go_wp2_with fail;exact ⟨⟨_,_,rfl,rfl,hq0,hq1,HFin.out,hbw.alloc hbw.size _⟩,by simpa [intOf] using HLt.out⟩
    ·have g3:decide (-(d:Int)<0)=true:=by simp;omega
     go_wp2_with fail;exact ⟨⟨_,_,rfl,rfl,hq0,hq1,HFin.out,hbw.alloc hbw.size _⟩,by simpa [intOf] using HLt.out⟩
end

section
open Go.RowKit
def cmpN (m n:Nat):Int:=if m<n then -1 else if n<m then 1 else 0
theorem qlc (a b:ByteArray) (m n:Nat) (w:World) (ha:a.data.toList=Lib.decDigits m) (hb:b.data.toList=Lib.decDigits n) (hs:a.size≤1000000000) (_:b.size≤1000000000) :
  Calls prog 129 #[.string a,.string b] w fun e w'=>e=.returned (.int .i64 (cmpN m n))∧Below w.heap.size w w':=by
 have la:a.size=(Lib.decDigits m).length:=by rw [← ha];simp
 have lb:b.size=(Lib.decDigits n).length:=by rw [← hb];simp
 by_cases hlen:a.size=b.size
 ·have g1:((a.size:Int) == (b.size:Int))=true:=by rw [beq_iff_eq];omega
  have g2:((a.size:Int) != (b.size:Int))=false:=by simp [bne,g1]
  have key:∀ (i:Nat) (h1:i<a.size) (h2:i<b.size),(Lib.decDigits m).take i=(Lib.decDigits n).take i→(a[i].toNat<b[i].toNat→cmpN m n=-1)∧(b[i].toNat<a[i].toNat→cmpN m n=1)∧(a[i].toNat=b[i].toNat→(Lib.decDigits m).take (i+1)=(Lib.decDigits n).take (i+1)):=by
   intro i h1 h2 he;have e1:a[i]=(Lib.decDigits m)[i]'(by omega):=by have:a[i]=a.data.toList[i]'(by simpa using h1):=rfl;rw [this];simp only [ha]
   have e2:b[i]=(Lib.decDigits n)[i]'(by omega):=by have:b[i]=b.data.toList[i]'(by simpa using h2):=rfl;rw [this];simp only [hb]
   rw [e1,e2];have hl:(Lib.decDigits m).length=(Lib.decDigits n).length:=by omega
   refine ⟨fun h=>?_,fun h=>?_,fun h=>?_⟩
   ·have:=q6j (q4k m) (q4k n) hl i (by omega) he h
    rw [q4y,q4y] at this;unfold cmpN;rw [if_pos this]
   ·have:=q6j (q4k n) (q4k m) hl.symm i (by omega) he.symm h
    rw [q4y,q4y] at this;unfold cmpN;rw [if_neg (by omega),if_pos this]
   ·rw [List.take_succ_eq_append_getElem (by omega),List.take_succ_eq_append_getElem (by omega),he,UInt8.toNat_inj.1 h]
  have hend:(Lib.decDigits m).take a.size=(Lib.decDigits n).take a.size→cmpN m n=0:=by
   intro h;rw [la,List.take_length,← la,hlen,lb,List.take_length] at h
   have:=q4n h
   unfold cmpN;rw [if_neg (by omega),if_neg (by omega)]
  have Key:=hj_ key;have HEnd:=hj_ hend;generalize cmpN m n=r at *;clear key hend la lb ha hb
  go_enter func129,ntmps129
  go_wp2
  go_loopw [5] (fun v wr=>∃ i:Nat,i≤a.size∧v=.int .i64 i∧(Lib.decDigits m).take i=(Lib.decDigits n).take i∧Below w.heap.size w wr) (fun v _=>a.size-(intOf v).toNat)
  case atStart=>exact ⟨0,Nat.zero_le _,rfl,rfl,br_⟩
  case round =>
   obtain ⟨i,hi,rfl,he,hbw⟩:=hrel
   by_cases hlt:i<a.size
   ·have hlb:i<b.size:=by omega
    obtain ⟨k1,k2,k3⟩:=Key.out i hlt hlb he;have hli:(i:Int)<(b.size:Int):=by omega
    clear he
    rcases Nat.lt_trichotomy a[i].toNat b[i].toNat with h | h | h
    ·obtain rfl:=k1 h
     have g3:((a[i].toNat:Int) == (b[i].toNat:Int))=false:=by rw [beq_eq_false_iff_ne];omega
     have g4:((a[i].toNat:Int) != (b[i].toNat:Int))=true:=by simp [bne,g3]
     clear k1 k2 k3;go_wp2_with fail;go_quiet (fail);go_wp2_with fail;go_quiet (fail);go_wp2;go_ret;exact ⟨rfl,q18 (q18 hbw _) _⟩
    ·have H3:=hj_ (k3 h)
     have g3:((a[i].toNat:Int) == (b[i].toNat:Int))=true:=by rw [beq_iff_eq];omega
     have g4:((a[i].toNat:Int) != (b[i].toNat:Int))=false:=by simp [bne,g3]
     clear k1 k2 k3;go_wp2_with fail;go_quiet (fail);go_wp2
     go_roundw
     case rel=>exact ⟨i+1,by omega,by go_num,H3.out,q18 hbw _⟩
     case measure=>simp [intOf];omega
    ·obtain rfl:=k2 h
     have g3:((a[i].toNat:Int) == (b[i].toNat:Int))=false:=by rw [beq_eq_false_iff_ne];omega
     have g4:((a[i].toNat:Int) != (b[i].toNat:Int))=true:=by simp [bne,g3]
     have g5:¬ a[i].toNat<b[i].toNat:=by omega
     clear k1 k2 k3;go_wp2_with fail;go_quiet (fail);go_wp2_with fail;go_quiet (fail);go_wp2;go_ret;exact ⟨rfl,q18 (q18 hbw _) _⟩
   ·obtain rfl:i=a.size:=by omega
    obtain rfl:=HEnd.out he;clear he;go_wp2;go_ret;exact ⟨rfl,hbw⟩
 ·have g1:((a.size:Int) == (b.size:Int))=false:=by rw [beq_eq_false_iff_ne];omega
  have g2:((a.size:Int) != (b.size:Int))=true:=by simp [bne,g1]
  by_cases hlt:a.size<b.size
  ·have hv:cmpN m n=-1:=by have:=q4j (m:=m) (n:=n) (by omega);unfold cmpN;rw [if_pos this]
   rw [hv];clear hv la lb ha hb
   go_enter func129,ntmps129
   go_wp2;go_ret;exact ⟨rfl,by (repeat' first | exact br_ | assumption | apply Below.drew | apply q18 | refine Below.alloc ?_ ?_ _ | refine Below.setCell ?_ ?_ _ | refine Below.trans ?_ (Below.mono ‹_› ?_) | omega | (simp;omega) | simp)⟩
  ·have hv:cmpN m n=1:=by have:=q4j (m:=n) (n:=m) (by omega);unfold cmpN;rw [if_neg (by omega),if_pos this]
   rw [hv];clear hv la lb ha hb
   go_enter func129,ntmps129
   go_wp2;go_ret;exact ⟨rfl,by (repeat' first | exact br_ | assumption | apply Below.drew | apply q18 | refine Below.alloc ?_ ?_ _ | refine Below.setCell ?_ ?_ _ | refine Below.trans ?_ (Below.mono ‹_› ?_) | omega | (simp;omega) | simp)⟩
theorem q3m (m n:Nat):cmpN m n=((m:Int)-(n:Int)).sign:=by
 unfold cmpN
 by_cases h:m<n
 ·rw [if_pos h,Int.sign_eq_neg_one_of_neg (by omega)]
 ·rw [if_neg h]
  by_cases h':n<m
  ·rw [if_pos h',Int.sign_eq_one_of_pos (by omega)]
  ·rw [if_neg h',show (m:Int)-n=0 from by omega];rfl
theorem qpn (z:Int):(z<0∧z.sign=-1)∨(z=0∧z.sign=0)∨(0<z∧z.sign=1):=by
 rcases Int.lt_trichotomy z 0 with h | h | h
 ·exact .inl ⟨h,Int.sign_eq_neg_one_of_neg h⟩
 ·exact .inr (.inl ⟨h,by rw [h];rfl⟩)
 ·exact .inr (.inr ⟨h,Int.sign_eq_one_of_pos h⟩)
theorem qfm (x y:Int):(x-y).sign=if x.sign<y.sign then -1 else if y.sign<x.sign then 1 else if x.sign<0 then cmpN y.natAbs x.natAbs else cmpN x.natAbs y.natAbs:=by
 rw [q3m,q3m]
 rcases qpn x with ⟨h1,h2⟩ | ⟨h1,h2⟩ | ⟨h1,h2⟩ <;> rcases qpn y with ⟨k1,k2⟩ | ⟨k1,k2⟩ | ⟨k1,k2⟩ <;> rw [h2,k2] <;> simp <;>
  first | omega | (congr 1;omega) | (subst h1;subst k1;rfl)
theorem qmv (a b:ByteArray) (x y:Int) (w:World) (ha:a.data.toList=Lib.itoa x) (hb:b.data.toList=Lib.itoa y) (hs:a.size≤1000000000) (ht:b.size≤1000000000) :
  Calls prog 85 #[.string a,.string b] w fun e w'=>e=.returned (.int .i64 (x-y).sign)∧Below w.heap.size w w':=by
 have hSa:=fun w=>qnm a w (by omega)
 have hSb:=fun w=>qnm b w (by omega)
 have hBa:=fun w=>ql7 a w (by omega)
 have hBb:=fun w=>ql7 b w (by omega)
 simp only [ha,hb,qpl,q1f] at hSa hSb hBa hBb;have hrule:=qfm x y;have la:(Lib.decDigits x.natAbs).length≤1000000000:=by
  have h1:=q1i a.data.toList;rw [q1y,ha,q1f] at h1
  split at h1 <;> omega
 have lb:(Lib.decDigits y.natAbs).length≤1000000000:=by
  have h1:=q1i b.data.toList;rw [q1y,hb,q1f] at h1
  split at h1 <;> omega
 have hC1:=fun w=>qlc ⟨(Lib.decDigits x.natAbs).toArray⟩ ⟨(Lib.decDigits y.natAbs).toArray⟩ x.natAbs y.natAbs w rfl rfl la lb
 have hC2:=fun w=>qlc ⟨(Lib.decDigits y.natAbs).toArray⟩ ⟨(Lib.decDigits x.natAbs).toArray⟩ y.natAbs x.natAbs w rfl rfl lb la
 generalize (x-y).sign=r at *;generalize cmpN x.natAbs y.natAbs=c1 at *;generalize cmpN y.natAbs x.natAbs=c2 at *;generalize (⟨(Lib.decDigits x.natAbs).toArray⟩:ByteArray)=X at *;generalize (⟨(Lib.decDigits y.natAbs).toArray⟩:ByteArray)=Y at *;have HSa:=hj_ hSa;have HSb:=hj_ hSb;have HBa:=hj_ hBa;have HBb:=hj_ hBb;have HC1:=hj_ hC1;have HC2:=hj_ hC2;clear hSa hSb hBa hBb hC1 hC2 la lb ha hb;generalize x.sign=sx at *;generalize y.sign=sy at *
 by_cases he:sx=sy
 ·subst he
  rw [if_neg (by omega),if_neg (by omega)] at hrule
  by_cases hn:sx<0
  ·rw [if_pos hn] at hrule
   subst hrule;have g1:(sx == sx)=true:=by simp
   go_enter func85,ntmps85
   go_wp2_with fail;refine (HSa.out w).mono ?_;rintro e w1 ⟨rfl,hb1⟩;go_wp2_with fail;refine (HSb.out w1).mono ?_;rintro e w2 ⟨rfl,hb2⟩;have hb12:=ht_ hb1 hb2;go_wp2_with fail;refine (HBb.out w2).mono ?_;rintro e w3 ⟨rfl,hb3⟩;go_wp2_with fail;refine (HBa.out w3).mono ?_;rintro e w4 ⟨rfl,hb4⟩;go_wp2_with fail;refine (HC2.out w4).mono ?_;rintro e w5 ⟨rfl,hb5⟩;have hbe:=hb12.trans ((hb3.trans ((ht_ hb4 hb5).mono hb3.size)).mono hb12.size);go_wp2;go_ret;exact ⟨rfl,hbe⟩
  ·rw [if_neg hn] at hrule
   subst hrule;have g1:(sx == sx)=true:=by simp
   have g2:decide (sx<0)=false:=by simpa using hn
   go_enter func85,ntmps85
   go_wp2_with fail;refine (HSa.out w).mono ?_;rintro e w1 ⟨rfl,hb1⟩;go_wp2_with fail;refine (HSb.out w1).mono ?_;rintro e w2 ⟨rfl,hb2⟩;have hb12:=ht_ hb1 hb2;go_wp2_with fail;refine (HBa.out w2).mono ?_;rintro e w3 ⟨rfl,hb3⟩;go_wp2_with fail;refine (HBb.out w3).mono ?_;rintro e w4 ⟨rfl,hb4⟩;go_wp2_with fail;refine (HC1.out w4).mono ?_;rintro e w5 ⟨rfl,hb5⟩;have hbe:=hb12.trans ((hb3.trans ((ht_ hb4 hb5).mono hb3.size)).mono hb12.size);go_wp2;go_ret;exact ⟨rfl,hbe⟩
 ·have g1:(sx == sy)=false:=by simpa using he
  have g2:(sx != sy)=true:=by simpa using he
  by_cases hn:sx<sy
  ·rw [if_pos hn] at hrule
   subst hrule
   go_enter func85,ntmps85
   go_wp2_with fail;refine (HSa.out w).mono ?_;rintro e w1 ⟨rfl,hb1⟩;go_wp2_with fail;refine (HSb.out w1).mono ?_;rintro e w2 ⟨rfl,hb2⟩;have hb12:=ht_ hb1 hb2;go_wp2_with fail;go_ret;exact ⟨rfl,hb12⟩
  ·rw [if_neg hn,if_pos (by omega)] at hrule
   subst hrule;have g3:decide (sx<sy)=false:=by simpa using hn
   go_enter func85,ntmps85
   go_wp2_with fail;refine (HSa.out w).mono ?_;rintro e w1 ⟨rfl,hb1⟩;go_wp2_with fail;refine (HSb.out w1).mono ?_;rintro e w2 ⟨rfl,hb2⟩;have hb12:=ht_ hb1 hb2;go_wp2_with fail;go_ret;exact ⟨rfl,hb12⟩
end

section
open Go.RowKit
def nv (l:List Nat):List Value:=l.map fun (x:Nat)=>Value.int .i64 (x:Int)
theorem qf0 (l m:List Nat):nv (l ++ m)=nv l ++ nv m:=by simp [nv]
theorem qf1 (l:List Nat):(nv l).length=l.length:=by simp [nv]
theorem nv_set (l:List Nat) (i x:Nat):(nv l).set i (.int .i64 (x:Int))=nv (l.set i x):=by simp [nv,List.map_set]
theorem qf2 (n:Nat):List.replicate n (Value.int .i64 0)=nv (List.replicate n 0):=by simp [nv]
def Ns (w:World) (A:Option Addr) (n:Nat) (l:List Nat):Prop:=n=l.length∧Sl w 1 A n (nv l)
theorem Ns.below {w w':World} {A:Option Addr} {n:Nat} {l:List Nat} (h:Ns w A n l) (hb:Below w.heap.size w w'):Ns w' A n l:=⟨h.1,h.2.below hb⟩
theorem Ns.at1 {w:World} {A:Option Addr} {n:Nat} {l:List Nat} (h:Ns w A n l) {k:Nat} (hk:k<l.length) :
  ∃ b o,A=some ⟨b,o,none⟩∧b<w.heap.size∧w.cell? ⟨b,o+k,none⟩=some (.int .i64 (l[k]:Int)):=by
 obtain ⟨b,o,e,hb,hc⟩:=h.2.2 (by have:=h.1;omega)
 exact ⟨b,o,e,hb,hc k _ (by simp [nv,hk])⟩
theorem Ns.of_own {w:World} {base:Nat} {e:TypeId} {A:Option Addr} {n c:Nat} {l:List Nat} (h:w.ownsRow base e 1 (.slice A n c) n (nv l)) (hn:n=l.length):Ns w A n l:=⟨hn,Sl.of_own h⟩
theorem infoN:(prog.info? 3).map (fun i=>(i.zero,i.size,i.bytes))=some (some (.int .i64 0),1,8):=by kernel_rfl
def RetL (l:List Nat) (w:World) (e:Ending) (w':World):Prop:=∃ A c,e=.returned (.slice A l.length c)∧Ns w' A l.length l∧Below w.heap.size w w'
theorem q6e {t:BT} {lo j:Nat} (h1:lo≤j) (h2:j<t.length):(t.take (j+1)).drop lo=(t.take j).drop lo ++ [t[j]]:=by
 rw [List.take_succ_eq_append_getElem h2,List.drop_append_of_le_length (by rw [List.length_take];omega)]
theorem q5i {t:BT} {b:ByteArray} (hb:b.data.toList=t) {lo j:Nat} (h1:lo≤j) (h2:j<b.size):dval ((t.take (j+1)).drop lo)=10*dval ((t.take j).drop lo)+(b[j].toNat-48):=by
 have hi:j<t.length:=by rw [← hb];simpa using h2
 have e:b[j]=t[j]:=by subst hb;rfl
 rw [q6e h1 hi,q6p,e]
theorem qob (b:ByteArray) (t:BT) (w:World) (hbt:b.data.toList=t) (hd:Dgs t) (hs:b.size≤1000000) :
  Calls prog 187 #[.string b] w fun e w'=>∃ l,RetL l w e w'∧Wd 10000 l∧wv 10000 l=dval t∧l.length≤t.length:=by
 have hbs:b.size=t.length:=by rw [← hbt];simp
 have HBt:=hj_ hbt;have HD:=hj_ hd;have HBs:=hj_ hbs;clear hbt hd hbs
 go_enter func187,ntmps187
 go_wp2
 go_loopw [3,4] (fun v iv wr=>∃ (k:Nat) (l:List Nat),iv=.int .i64 ((b.size:Int)-4*(k:Int))∧(k=0∨4*(k-1)<b.size)∧wr.ownsRow w.heap.size 3 1 v k (nv l)∧l.length=k∧Wd 10000 l∧dval t=dval (t.take (b.size-4*k))*10000 ^ k+wv 10000 l∧Below w.heap.size w wr) (fun _ iv _=>(intOf iv).toNat)
 case atStart=>exact ⟨0,[],by simp,.inl rfl,World.ownsRow_nil _ _ _ _,rfl,fun x hx=>(by cases hx),by rw [HBs.out];simp [wv],br_⟩
 case round =>
  obtain ⟨k,l,rfl,hk,hown,hlk,hwd,hval,hbV⟩:=hrel
  by_cases hlt:4*k<b.size
  ·have h0:decide ((0:Int)<(b.size:Int)-4*(k:Int))=true:=by simp;omega
   have HVal:=hj_ hval;have HWd:=hj_ hwd;have HLk:=hj_ hlk;clear hval hwd hlk hk;obtain ⟨en,hen⟩:∃ en:Nat,en=b.size-4*k:=⟨_,rfl⟩;obtain ⟨lo,hlo⟩:∃ lo:Nat,lo=en-4:=⟨_,rfl⟩;have he1:(b.size:Int)-4*(k:Int)=(en:Int):=by omega
   rw [he1] at h0 ⊢;have hmax:max 0 ((en:Int)-4)=(lo:Int):=by omega
   have hle:lo≤en:=by omega
   have heb:en≤b.size:=by omega
   have HEn:=hj_ hen;have HLo:=hj_ hlo;have HLt:=hj_ hlt;have h4:en≤lo+4:=by omega
   have hepos:0<en:=by omega
   have hle':(lo:Int)≤(en:Int):=by omega
   have hk2:k≤1000000:=by omega
   have hsz:=hbV.size;clear hen hlo he1 hlt;obtain ⟨wo,rfl⟩:∃ wo:World,wo=wr:=⟨_,rfl⟩;go_wp2_with fail
   case inl =>
    go_loop [5,6] (fun xv kv=>∃ j:Nat,lo≤j∧j≤en∧kv=.int .i64 j∧xv=.int .i64 (dval ((t.take j).drop lo))∧dval ((t.take j).drop lo)<10 ^ (j-lo)) (fun _ kv=>en-(intOf kv).toNat)
    case atStart=>exact ⟨lo,Nat.le_refl _,hle,by first | rfl | (congr 1;omega),by rw [List.drop_eq_nil_of_le (by rw [List.length_take];omega)];rfl,by rw [List.drop_eq_nil_of_le (by rw [List.length_take];omega),Nat.sub_self];decide⟩
    case round =>
     obtain ⟨j,hj1,hj2,rfl,rfl,hj9⟩:=hrel
     by_cases hjl:j<en
     ·have hjb:j<b.size:=by omega
      obtain ⟨d1,d2⟩:=dg_at HBt.out HD.out hjb;have hnx:=q5i HBt.out hj1 hjb;have hp4:10 ^ (j-lo)≤10 ^ 3:=Nat.pow_le_pow_right (by omega) (by omega)
      have hp1:10 ^ (j+1-lo)=10*10 ^ (j-lo):=by rw [show j+1-lo=(j-lo)+1 from by omega,Nat.pow_succ,Nat.mul_comm]
      have hn9:dval ((t.take (j+1)).drop lo)<10 ^ (j+1-lo):=by rw [hnx,hp1];omega
      have HNx:=hj_ hnx;have HN9:=hj_ hn9;have hm:dval ((t.take j).drop lo)<1000:=by omega
      clear hnx hn9 hp1 hp4 hj9;generalize dval ((t.take j).drop lo)=m at *;go_wp2;refine ⟨⟨j+1,by omega,by omega,by go_num,?_,HN9.out⟩,by simp [intOf];omega⟩
      rw [HNx.out];congr 1;omega
     ·obtain rfl:j=en:=by omega
      obtain ⟨x,hx⟩:∃ x,x=dval ((t.take j).drop lo):=⟨_,rfl⟩;have hx9:x<10000:=by
       have hp4:10 ^ (j-lo)≤10 ^ 4:=Nat.pow_le_pow_right (by omega) (by omega)
       omega
      have hstep:dval t=dval (t.take (j-4))*(10 ^ 4) ^ (k+1)+wv (10 ^ 4) (l ++ [x]):=by
       rw [hx,HLo.out];exact qlk (b:=4) (by have:=HBs.out;omega) HLk.out (by have:=HVal.out;rw [← HEn.out] at this;exact this)
      rw [← hx];have HStep:=hj_ hstep;clear hstep hx hj9;go_wp2_with (at_builtin;refine q003 rfl _ _ _ rfl w.heap.size _ _ 1 8 underlying78 infoN rfl (by omega) _ k (nv l) rfl hown [.int .i64 _] _ _ _ rfl (by first | rfl | simp) rfl (qf9 _) (by unfold maxLen;omega) (by omega) (by first | omega | (simp;omega) | simp) ?_;intro g cap w1 hown1 hg1)
      go_roundw
      case rel=>exact ⟨k+1,l ++ [x],by have:=HEn.out;have:=HLt.out;go_num,.inr (by simpa using HLt.out),by
       rw [qf0];exact hown1,by simp [HLk.out],HWd.out.snoc hx9,by
       have e1:b.size-4*(k+1)=j-4:=by have:=HEn.out;omega
       rw [e1];exact HStep.out,q1a hbV (Nat.le_refl _) hown hg1⟩
      case measure=>simp [intOf];omega
   case inr =>
    go_loop [5,6] (fun xv kv=>∃ j:Nat,lo≤j∧j≤en∧kv=.int .i64 j∧xv=.int .i64 (dval ((t.take j).drop lo))∧dval ((t.take j).drop lo)<10 ^ (j-lo)) (fun _ kv=>en-(intOf kv).toNat)
    case atStart=>exact ⟨lo,Nat.le_refl _,hle,by first | rfl | (congr 1;omega),by rw [List.drop_eq_nil_of_le (by rw [List.length_take];omega)];rfl,by rw [List.drop_eq_nil_of_le (by rw [List.length_take];omega),Nat.sub_self];decide⟩
    case round =>
     obtain ⟨j,hj1,hj2,rfl,rfl,hj9⟩:=hrel
     by_cases hjl:j<en
     ·have hjb:j<b.size:=by omega
      obtain ⟨d1,d2⟩:=dg_at HBt.out HD.out hjb;have hnx:=q5i HBt.out hj1 hjb;have hp4:10 ^ (j-lo)≤10 ^ 3:=Nat.pow_le_pow_right (by omega) (by omega)
      have hp1:10 ^ (j+1-lo)=10*10 ^ (j-lo):=by rw [show j+1-lo=(j-lo)+1 from by omega,Nat.pow_succ,Nat.mul_comm]
      have hn9:dval ((t.take (j+1)).drop lo)<10 ^ (j+1-lo):=by rw [hnx,hp1];omega
      have HNx:=hj_ hnx;have HN9:=hj_ hn9;have hm:dval ((t.take j).drop lo)<1000:=by omega
      clear hnx hn9 hp1 hp4 hj9;generalize dval ((t.take j).drop lo)=m at *;go_wp2;refine ⟨⟨j+1,by omega,by omega,by go_num,?_,HN9.out⟩,by simp [intOf];omega⟩
      rw [HNx.out];congr 1;omega
     ·obtain rfl:j=en:=by omega
      obtain ⟨x,hx⟩:∃ x,x=dval ((t.take j).drop lo):=⟨_,rfl⟩;have hx9:x<10000:=by
       have hp4:10 ^ (j-lo)≤10 ^ 4:=Nat.pow_le_pow_right (by omega) (by omega)
       omega
      have hstep:dval t=dval (t.take (j-4))*(10 ^ 4) ^ (k+1)+wv (10 ^ 4) (l ++ [x]):=by
       rw [hx,HLo.out];exact qlk (b:=4) (by have:=HBs.out;omega) HLk.out (by have:=HVal.out;rw [← HEn.out] at this;exact this)
      rw [← hx];have HStep:=hj_ hstep;clear hstep hx hj9;go_wp2_with (at_builtin;refine q003 rfl _ _ _ rfl w.heap.size _ _ 1 8 underlying78 infoN rfl (by omega) _ k (nv l) rfl hown [.int .i64 _] _ _ _ rfl (by first | rfl | simp) rfl (qf9 _) (by unfold maxLen;omega) (by omega) (by first | omega | (simp;omega) | simp) ?_;intro g cap w1 hown1 hg1)
      go_roundw
      case rel=>exact ⟨k+1,l ++ [x],by have:=HEn.out;have:=HLt.out;go_num,.inr (by simpa using HLt.out),by
       rw [qf0];exact hown1,by simp [HLk.out],HWd.out.snoc hx9,by
       have e1:b.size-4*(k+1)=j-4:=by have:=HEn.out;omega
       rw [e1];exact HStep.out,q1a hbV (Nat.le_refl _) hown hg1⟩
      case measure=>simp [intOf];omega
  ·have h0:decide ((0:Int)<(b.size:Int)-4*(k:Int))=false:=by simp;omega
   have hval2:wv 10000 l=dval t:=by
    rw [hval,show b.size-4*k=0 from by omega,List.take_zero,q6m];omega
   obtain ⟨A',c',rfl⟩:=qfu hown;have hns:=Ns.of_own hown hlk.symm;have hlt2:l.length≤t.length:=by have:=HBs.out;omega
   subst hlk;clear hown hval hk;go_wp2;go_ret;exact ⟨l,⟨_,_,rfl,hns,hbV⟩,hwd,hval2,hlt2⟩
end

section
open Go.RowKit
theorem infoB:(prog.info? 5).map (fun i=>(i.zero,i.size,i.bytes))=some (some (.int .u8 0),1,1):=by kernel_rfl
theorem q1v (x:Int):∀ u ∈ [Value.int .u8 x],u.oneCell' = true:=by simp;rfl
theorem q5k (V x j:Nat) (hj:j<4) (_hx:x<10000) :
  (V*10000+x) / 10 ^ (3-j)=10*((V*10000+x) / 10 ^ (4-j))+(x % 10 ^ (4-j)) / 10 ^ (3-j)∧x % 10 ^ (4-j) % 10 ^ (3-j)=x % 10 ^ (3-j)∧(x % 10 ^ (4-j)) / 10 ^ (3-j)<10:=by
 obtain rfl | rfl | rfl | rfl:j=0∨j=1∨j=2∨j=3:=by omega
 all_goals (simp only [Nat.reduceSub,Nat.reducePow];omega)
def qhx (j:Nat):Nat:=if j<4 then 10 ^ (3-j) else 0
theorem qnr (A:Option Addr) (n c:Nat) (l:List Nat) (w:World) (hl:Ns w A n l) (hn:n≤1000000) (hw:Wd 10000 l) :
  Calls prog 188 #[.slice A n c] w fun e w'=>e=.returned (.string ⟨(Lib.decDigits (wv 10000 l)).toArray⟩)∧Below w.heap.size w w':=by
 obtain ⟨rfl,_⟩:=id hl;have HW:=hj_ hw;clear hw
 go_enter func188,ntmps188
 go_wp2
 go_loopw [3,4] (fun v iv wr=>∃ (k:Nat),k≤l.length∧iv=.int .i64 ((k:Int)-1)∧wr.ownsRow w.heap.size 5 1 v (decZ (wv 10000 (l.drop k))).length (Lib.byteCells (decZ (wv 10000 (l.drop k))))∧(decZ (wv 10000 (l.drop k))).length≤4*(l.length-k)∧Below w.heap.size w wr) (fun _ iv _=>(intOf iv+1).toNat)
 case atStart=>exact ⟨l.length,Nat.le_refl _,rfl,by rw [List.drop_length];exact World.ownsRow_nil _ _ _ _,by rw [List.drop_length];simp [wv,decZ],br_⟩
 case round =>
  obtain ⟨k,hk,rfl,hown,hlen,hbV⟩:=hrel
  by_cases h0:k=0
  ·subst h0
   rw [List.drop_zero] at hown hlen;obtain ⟨A',c',rfl⟩:=qfu hown
   by_cases hz:wv 10000 l=0
   ·have HZ:=hj_ hz
    rw [hz] at hown;have hz0:(decZ 0).length=0:=rfl;rw [hz,hz0];clear hown hlen hz;go_wp2;go_ret;exact ⟨by rw [HZ.out,q50];rfl,hbV⟩
   ·have hd:decZ (wv 10000 l)=Lib.decDigits (wv 10000 l):=q4f (by omega)
    rw [hd] at hown hlen;rw [hd];have hpos:=q4u (wv 10000 l);obtain ⟨D,hD⟩:∃ D,D=Lib.decDigits (wv 10000 l):=⟨_,rfl⟩;rw [← hD] at hown hlen hpos hd ⊢;have HDD:=hj_ hD;clear hD;obtain ⟨g,cap,hv,_,hgl⟩:=hown.form hpos
    injection hv with hv1 hv2 hv3
    subst hv1 hv3;have hcv:(convert 194 9 (.slice (some ⟨g,0,none⟩) D.length c')).run prog wr=.ok (.string ⟨D.toArray⟩) wr :=
     run_convert_bytes_back (P:=prog) wr 194 9 5 ⟨g,0,none⟩ c' D underlying194 underlying5 underlying9 (fun j hj=>hown.cells (g:=g) rfl j _ (by simp [Lib.byteCells,hj]))
    have g0:((D.length:Int) == 0)=false:=by rw [beq_eq_false_iff_ne];omega
    have hDl:D.length≤4000000:=by omega
    have hDne:¬ D=[]:=by intro h;rw [h] at hpos;simp at hpos
    clear hown hlen hz hd;go_wp2;go_ret;exact ⟨by rw [← HDD.out];rfl,hbV⟩
  ·obtain ⟨i,rfl⟩:∃ i,k=i+1:=⟨k-1,by omega⟩
   have hi:i<l.length:=by omega
   have hi1:((i+1:Nat):Int)-1=(i:Int):=by omega
   rw [hi1];obtain ⟨bb,o,rfl,hbl,hc⟩:=(hl.below hbV).at1 hi;have hx:=HW.out.at hi;have HX:=hj_ (show wv 10000 (l.drop i)=wv 10000 (l.drop (i+1))*10000+l[i] by rw [q6g 10000 l i hi];omega)
   generalize l[i]=x at *;generalize wv 10000 (l.drop (i+1))=V at *;have hsz:=hbV.size;obtain ⟨wo,rfl⟩:∃ wo:World,wo=wr:=⟨_,rfl⟩;go_wp2_with fail
   go_loopw [3,5,6] (fun v nv pv wr=>∃ (j:Nat),j≤4∧pv=.int .i64 (qhx j:Nat)∧nv=.int .i64 ((x % 10 ^ (4-j):Nat):Int)∧wr.ownsRow w.heap.size 5 1 v (decZ ((V*10000+x) / 10 ^ (4-j))).length (Lib.byteCells (decZ ((V*10000+x) / 10 ^ (4-j))))∧(decZ ((V*10000+x) / 10 ^ (4-j))).length≤4*(l.length-(i+1))+j∧Below w.heap.size w wr) (fun _ _ pv _=>(intOf pv).toNat)
   case atStart =>
    have e:(V*10000+x) / 10 ^ (4-0)=V:=by simp only [Nat.reduceSub,Nat.reducePow];omega
    exact ⟨0,by omega,rfl,by congr 2;simp only [Nat.reduceSub,Nat.reducePow];omega,by rw [e];exact hown,by rw [e];omega,hbV⟩
   case round =>
    obtain ⟨j,hj,rfl,rfl,hown,hlen,hbV⟩:=hrel;have hsz:=hbV.size
    by_cases hj4:j=4
    ·subst hj4
     have hp:qhx 4=0:=rfl;rw [hp];have e:(V*10000+x) / 10 ^ (4-4)=V*10000+x:=by simp only [Nat.reduceSub,Nat.reducePow];omega
     rw [e,← HX.out] at hown hlen;have hiz:(i:Int)-1=(i:Int)-1:=rfl;go_wp2
     go_roundw
     case rel=>exact ⟨i,by omega,by go_num,hown,by omega,hbV⟩
     case measure=>first | (simp [intOf];omega) | simp [intOf]
    ·have hj3:j<4:=by omega
     obtain ⟨r1,r2,r3⟩:=q5k V x j hj3 hx;have hp:0<10 ^ (3-j):=Nat.pow_pos (by omega)
     have hpl:qhx j=10 ^ (3-j):=if_pos hj3;have hpn:qhx (j+1)=10 ^ (3-j) / 10:=by
      obtain rfl | rfl | rfl | rfl:j=0∨j=1∨j=2∨j=3:=by omega
      all_goals rfl
     have hp3:10 ^ (3-j)≤1000:=by
      obtain rfl | rfl | rfl | rfl:j=0∨j=1∨j=2∨j=3:=by omega
      all_goals simp
     have hy:x % 10 ^ (4-j)<10000:=Nat.lt_of_le_of_lt (Nat.mod_le _ _) hx;have hs1:4-(j+1)=3-j:=by omega
     rw [hpl];obtain ⟨v,hv⟩:∃ v,v=(V*10000+x) / 10 ^ (4-j):=⟨_,rfl⟩;obtain ⟨y,hyy⟩:∃ y,y=x % 10 ^ (4-j):=⟨_,rfl⟩;obtain ⟨p,hpp⟩:∃ p,p=10 ^ (3-j):=⟨_,rfl⟩;rw [← hv,← hyy,← hpp] at r1;rw [← hyy,← hpp] at r2 r3;rw [← hpp] at hpn hp3 hp;rw [← hyy] at hy;rw [← hv] at hown hlen;rw [← hyy,← hpp];obtain ⟨d,hd⟩:∃ d,d=y / p:=⟨_,rfl⟩;obtain ⟨m,hm⟩:∃ m,m=y % p:=⟨_,rfl⟩;rw [← hd] at r1 r3;rw [← hm] at r2;have q1:(y:Int).tdiv (p:Int)=(d:Int):=by rw [hd];rfl
     have q2:(y:Int).tmod (p:Int)=(m:Int):=by rw [hm];rfl
     have q1':(y:Int) / (p:Int)=(d:Int):=by rw [hd];rfl
     have q2':(y:Int) % (p:Int)=(m:Int):=by rw [hm];rfl
     have hmy:m<10000:=by rw [hm];exact Nat.lt_of_le_of_lt (Nat.mod_le _ _) hy
     have R1:=hj_ r1;have R2:=hj_ r2;have HPn:=hj_ hpn;have HPP:=hj_ hpp;have HDZ:=hj_ (q4g (v:=v) (d:=d) r3);have hdl:decide (0<(decZ v).length)=decide (0<v):=by rw [decide_eq_decide];exact q4d v
     clear r1 r2 hpn hpp hpl hv hyy hd hm
     by_cases hc0:d=0∧v=0
     ·obtain ⟨rfl,rfl⟩:=hc0
      have hz0:(decZ 0).length=0:=rfl;clear hdl;obtain ⟨A',c',rfl⟩:=qfu hown;rw [hz0] at hown hlen;rw [hz0];go_wp2
      go_roundw
      case rel=>exact ⟨j+1,by omega,by first | (rw [HPn.out];done) | (rw [HPn.out];rfl),by rw [hs1,← HPP.out,R2.out],by
       rw [hs1,← HPP.out,R1.out];exact hown,by rw [hs1,← HPP.out,R1.out];simp [hz0],hbV⟩
      case measure=>simp [intOf];omega
     ·have HDz2:=hj_ (HDZ.out (by omega))
      obtain ⟨A',c',rfl⟩:=qfu hown;have hL:(decZ v).length≤4000000:=by omega
      have hL2:=hj_ (show (decZ (10*v+d)).length=(decZ v).length+1 by rw [HDz2.out];simp)
      obtain ⟨L,hLL⟩:∃ L,L=(decZ v).length:=⟨_,rfl⟩;rw [← hLL] at hown hlen hdl hL hL2 ⊢;have hd48:((dg1 d).toNat:Int)=48+(d:Int):=by rw [q56 r3];omega
      have HD48:=hj_ hd48;have HLL:=hj_ hLL;have hor:d=0→0<L:=fun h=>by rw [HLL.out,q4d];omega
      clear hdl hLL hd48
      by_cases hdz:d=0
      ·have hLp:=hor hdz
       subst hdz;clear hor;go_wp2_with (at_builtin;refine q003 rfl _ _ _ rfl w.heap.size _ _ 1 1 underlying194 infoB rfl (by omega) _ L (Lib.byteCells (decZ v)) rfl hown [.int .u8 _] _ _ _ rfl (by first | rfl | simp) rfl (q1v _) (by unfold maxLen;omega) (by omega) (by first | omega | (simp;omega) | simp) ?_;intro g cap w1 hown1 hg1)
       have e:Lib.byteCells [dg1 0]=[.int .u8 48]:=rfl;refine ⟨⟨j+1,by omega,by first | (rw [HPn.out];done) | (rw [HPn.out];rfl),by rw [hs1,← HPP.out,R2.out],?_,?_,q1a hbV (Nat.le_refl _) hown hg1⟩,by simp [intOf];omega⟩
       ·rw [hs1,← HPP.out,R1.out,hL2.out,HDz2.out,Lib.byteCells_append,e]
        exact hown1
       ·rw [hs1,← HPP.out,R1.out,hL2.out];omega
      ·have g1:((d:Int) == 0)=false:=by simpa using hdz
       have g2:((d:Int) != 0)=true:=by simpa using hdz
       clear hor;go_wp2_with (at_builtin;refine q003 rfl _ _ _ rfl w.heap.size _ _ 1 1 underlying194 infoB rfl (by omega) _ L (Lib.byteCells (decZ v)) rfl hown [.int .u8 _] _ _ _ rfl (by first | rfl | simp) rfl (q1v _) (by unfold maxLen;omega) (by omega) (by first | omega | (simp;omega) | simp) ?_;intro g cap w1 hown1 hg1)
       have e:Lib.byteCells [dg1 d]=[.int .u8 (48+(d:Int))]:=by rw [← HD48.out];rfl
       refine ⟨⟨j+1,by omega,by first | (rw [HPn.out];done) | (rw [HPn.out];rfl),by rw [hs1,← HPP.out,R2.out],?_,?_,q1a hbV (Nat.le_refl _) hown hg1⟩,by simp [intOf];omega⟩
       ·rw [hs1,← HPP.out,R1.out,hL2.out,HDz2.out,Lib.byteCells_append,e]
        exact hown1
       ·rw [hs1,← HPP.out,R1.out,hL2.out];omega
end

end Go.Proofs.YtabhjdmmfdfpeaaGreatDoor
