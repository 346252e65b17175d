/- Lemmas. -/
import Derived.Test.YtabhjdmmfdfpeaaGreatDoorKLevA
import Derived.Test.YtabhjdmmfdfpeaaGreatDoorKUp
namespace Go.Proofs.YtabhjdmmfdfpeaaGreatDoor
set_option maxHeartbeats 32000000
set_option maxRecDepth 100000
open _root_.Go.Proofs.Tryz
open Go.RowKit
variable {s:ByteArray} {st ti v:Int} {k:Nat}
theorem Is.fresh (w:World) (l:List Int) (t:TypeId) (cs:Array Value) (hcs:cs.toList=iv l):Is (w.alloc (.cells cs t)) (some ⟨w.heap.size,0,none⟩) l.length l:=by
 refine ⟨rfl,by simp [iv],fun _=>⟨w.heap.size,0,rfl,s_,fun j u hu=>?_⟩⟩
 rw [Nat.zero_add,World.cell?_alloc_new,← Array.getElem?_toList,hcs];exact hu
def inT (L v:Int):Bool:=decide (0≤v) && decide (v≤L)
theorem q9r {α:Type} {f:α→Bool} {l:List α} (hk:k<l.length) (h:(l.take k).all f=true):(f l[k]=false→l.all f=false)∧(f l[k]=true→(l.take (k+1)).all f=true):=by
 constructor
 ·intro h1
  refine Bool.eq_false_iff.2 fun h2=>?_
  have:=List.all_eq_true.1 h2 l[k] (List.getElem_mem hk)
  rw [h1] at this;cases this
 ·intro h1
  rw [List.take_succ_eq_append_getElem hk,List.all_append,h];simp [h1]
theorem qak (A:Option Addr) (n c:Nat) (L:Int) (l:List Int) (w:World) (hl:Is w A n l) (hn:n≤1000) :
  Rt 260 #[.int .i64 L,.slice A n c] w (.bool (l.all (inT L))):=by
 obtain ⟨rfl,_⟩:=id hl;obtain ⟨r,hr⟩:=ex_ (l.all (inT L));rw [← hr];have HR:=hj_ hr;clear hr
 go_enter func260,ntmps260
 go_wp2
 go_loopw [9] (fun iv wr=>∃ k:Nat,k≤l.length∧iv=.int .i64 k∧(l.take k).all (inT L)=true∧Below w.heap.size w wr) (fun iv _=>l.length-(intOf iv).toNat)
 case atStart=>exact ⟨0,Nat.zero_le _,rfl,s_,br_⟩
 case round =>
  obtain ⟨k,hk,rfl,hall,hB⟩:=hrel
  by_cases hlt:k<l.length
  ·obtain ⟨b,o,rfl,_,hc⟩:=(hl.below hB).at1 hlt
   obtain ⟨hf,ht⟩:=q9r hlt hall;have hd:inT L l[k]=(decide (0≤l[k]) && decide (l[k]≤L)):=rfl;generalize l[k]=v at *;have HT:=hj_ ht;clear ht
   by_cases g1:v<0
   ·have hr:=HR.out.trans (hf (by rw [hd];simp;omega))
    clear HR;subst hr;clear hf hd hall;go_wp2;go_ret;exact ⟨rfl,hB⟩
   ·by_cases g2:L<v
    ·have hr:=HR.out.trans (hf (by rw [hd];simp;omega))
     clear HR;subst hr;clear hf hd hall;go_wp2;go_ret;exact ⟨rfl,hB⟩
    ·have hn:=hj_ (HT.out (by rw [hd];simp;omega))
     clear hf hd hall;go_wp2
     go_roundw
     case rel=>exact ⟨k+1,o_,by go_num,hn.out,hB⟩
     case measure=>simp [intOf];omega
  ·obtain rfl:k=l.length:=by omega
   have hr:r=true:=by rw [List.take_length] at hall;exact HR.out.trans hall
   clear HR;subst hr;clear hall;go_wp2;go_ret;exact ⟨rfl,hB⟩
theorem qbn {r:Rat}:InL r↔(¬ 0<ordR 0 r∧¬ 0<ordR r ((65535:Int):Rat)):=by
 rw [qfh,qfh,qdt];exact ⟨fun h=>⟨Rat.not_lt.2 h.1,Rat.not_lt.2 h.2⟩,fun h=>⟨Rat.not_lt.1 h.1,Rat.not_lt.1 h.2⟩⟩
theorem qaa (s:ByteArray) (w:World) (hs:s.size≤1000) (ht:Tab w) :
  Rt 259 #[.string s] w (.int .i64 (errLv s.data.toList)):=by
 have hB:=Below.refl w.heap.size w;have HT:=hj_ ht;have hC:=fun w ht=>qji s w o_ ht
 rcases qct s hs with ⟨hc,he⟩ | ⟨r,hr,hz,hv,hc,ho⟩
 ·rw [he]
  generalize chkR s.data.toList=k at *;have g1:(k == 0)=false:=by simpa using hc
  have g2:(k != 0)=true:=by simpa using hc
  have HC:=hj_ hC;clear hC hc he ht
  go_enter func259,ntmps259
  go_wp2_with (go_at_call 42;with_reducible refine uq_ (HC.out _ (HT.out.below hB)) hB fun wk hB=>?_);go_ret;exact ⟨rfl,hB⟩
 ·rw [hc] at hC
  have HC:=hj_ hC;subst hr;have HW0:=hj_ (fun w ht=>qke (x:=0) o_ o_ w ht)
  have HW1:=hj_ (fun w ht=>qke (x:=65535) o_ o_ w ht)
  rw [show ((0:Int):Rat)=0 from rfl] at HW0
  have HO1:=hj_ (fun w ht=>qjk qrk hz w ht o_)
  have HO2:=hj_ (fun w ht=>qjk hz sz_max w ht o_)
  have hin:=qbn (r:=r);generalize errLv (sR r).data.toList=err at *;generalize ordR r ((65535:Int):Rat)=o2 at *;generalize ordR 0 r=o1 at *;generalize sR ((65535:Int):Rat)=S2 at *;generalize sR 0=S0 at *;generalize sR r=S at *;have HErr:=hj_ (show (¬ InL r∧err=2)∨(InL r∧err=0) from ho)
  have HIn:=hj_ hin;clear hC hc hz hv hs ht ho hin
  go_enter func259,ntmps259
  go_wp2_with (first | (go_at_call 42;with_reducible refine uq_ (HC.out _ (HT.out.below hB)) hB fun wk hB=>?_) | (go_at_call 44;with_reducible refine uq_ (HW0.out _ (HT.out.below hB)) hB fun wk hB=>?_) | (go_at_call 44;with_reducible refine uq_ (HW1.out _ (HT.out.below hB)) hB fun wk hB=>?_))
  go_loopw [20] (fun iv wr=>(iv=.int .i64 0∨(iv=.int .i64 1∧¬ 0<o1)∨(iv=.int .i64 2∧¬ 0<o1∧¬ 0<o2))∧Below w.heap.size w wr) (fun iv _=>2-(intOf iv).toNat)
  case atStart=>exact ⟨.inl rfl,hB⟩
  case round =>
   obtain ⟨hiv,hB⟩:=hrel;have I0:(Instr.index 353 (.agg #[.string S0,.string S,.string S,.string S2]) (.int .i64 0)).run prog wr=.ok (.agg #[.string S0,.string S]) wr:=by rfl
   have I1:(Instr.index 353 (.agg #[.string S0,.string S,.string S,.string S2]) (.int .i64 1)).run prog wr=.ok (.agg #[.string S,.string S2]) wr:=by rfl
   rcases hiv with rfl | ⟨rfl,g1⟩ | ⟨rfl,g1,g2⟩
   ·by_cases g:0<o1
    ·have he:err=2:=by
      rcases HErr.out with ⟨_,e⟩ | ⟨h,_⟩
      ·exact e
      ·have:=(HIn.out.1 h).1;omega
     subst he;go_wp2_with (go_at_call 300;with_reducible refine (HO1.out _ (HT.out.below (hB.alloc hB.size _))).mono ?_;rintro e wk ⟨rfl,hb⟩;replace hB:=(hB.alloc hB.size _).trans (hb.mono (hB.alloc hB.size _).size);clear hb);go_ret;exact ⟨rfl,hB⟩
    ·go_wp2_with (go_at_call 300;with_reducible refine (HO1.out _ (HT.out.below (hB.alloc hB.size _))).mono ?_;rintro e wk ⟨rfl,hb⟩;replace hB:=(hB.alloc hB.size _).trans (hb.mono (hB.alloc hB.size _).size);clear hb)
     go_roundw
     case rel=>exact ⟨.inr (.inl ⟨by go_num,o_⟩),hB⟩
     case measure=>first | (simp [intOf];omega) | simp [intOf]
   ·by_cases g:0<o2
    ·have he:err=2:=by
      rcases HErr.out with ⟨_,e⟩ | ⟨h,_⟩
      ·exact e
      ·have:=(HIn.out.1 h).2;omega
     subst he;go_wp2_with (go_at_call 300;with_reducible refine (HO2.out _ (HT.out.below (hB.alloc hB.size _))).mono ?_;rintro e wk ⟨rfl,hb⟩;replace hB:=(hB.alloc hB.size _).trans (hb.mono (hB.alloc hB.size _).size);clear hb);go_ret;exact ⟨rfl,hB⟩
    ·go_wp2_with (go_at_call 300;with_reducible refine (HO2.out _ (HT.out.below (hB.alloc hB.size _))).mono ?_;rintro e wk ⟨rfl,hb⟩;replace hB:=(hB.alloc hB.size _).trans (hb.mono (hB.alloc hB.size _).size);clear hb)
     go_roundw
     case rel=>exact ⟨.inr (.inr ⟨by go_num,o_,o_⟩),hB⟩
     case measure=>first | (simp [intOf];omega) | simp [intOf]
   ·have he:err=0:=by
     rcases HErr.out with ⟨h,_⟩ | ⟨_,e⟩
     ·exact absurd (HIn.out.2 ⟨o_,o_⟩) h
     ·exact e
    subst he;go_wp2;go_ret;exact ⟨rfl,hB⟩
def errG (s:BT) (v st ti:Int):Int:=if errLv s≠0 then errLv s else if (inT 65535 v && (inT 10000000 st && inT 10000000 ti))=true then 0 else 2
theorem qal (L a:Int) (w:World) :
  Calls prog 260 #[.int .i64 L,.slice (some ⟨w.heap.size,0,none⟩) 1 1] (w.alloc (.cells #[.int .i64 a] 3)) fun e w'=>e=.returned (.bool (inT L a))∧Below w.heap.size w w':=by
 have h:=qak (some ⟨w.heap.size,0,none⟩) 1 1 L [a] _ (Is.fresh w [a] 3 #[.int .i64 a] rfl) d_
 refine h.mono ?_;rintro e w1 ⟨rfl,hb⟩;have hs:=(Below.refl w.heap.size w).alloc lr_ (.cells #[.int .i64 a] 3);exact ⟨s_,ht_ hs hb⟩
theorem qam (L a b:Int) (w:World) :
  Calls prog 260 #[.int .i64 L,.slice (some ⟨w.heap.size,0,none⟩) 2 2] (w.alloc (.cells #[.int .i64 a,.int .i64 b] 3)) fun e w'=>e=.returned (.bool (inT L a && inT L b))∧Below w.heap.size w w':=by
 have h:=qak (some ⟨w.heap.size,0,none⟩) 2 2 L [a,b] _ (Is.fresh w [a,b] 3 #[.int .i64 a,.int .i64 b] rfl) d_
 refine h.mono ?_;rintro e w1 ⟨rfl,hb⟩;have hs:=(Below.refl w.heap.size w).alloc lr_ (.cells #[.int .i64 a,.int .i64 b] 3);exact ⟨s_,ht_ hs hb⟩
structure GBx (s:ByteArray) (v st ti:Int) (P:Nat) (w:World):Prop where
 lt:P<w.heap.size
 c0:w.cell? ⟨P,0,none⟩=some (.string s)
 c1:w.cell? ⟨P,1,none⟩=some (.int .i64 v)
 c2:w.cell? ⟨P,2,none⟩=some (.int .i64 st)
 c3:w.cell? ⟨P,3,none⟩=some (.int .i64 ti)
theorem GBx.fresh (w:World) (s:ByteArray) (v st ti:Int):GBx s v st ti w.heap.size (w.alloc (.cells #[.string s,.int .i64 v,.int .i64 st,.int .i64 ti] 262)) :=
 ⟨s_,by rw [World.cell?_alloc_new];rfl,by rw [World.cell?_alloc_new];rfl,by rw [World.cell?_alloc_new];rfl,by rw [World.cell?_alloc_new];rfl⟩
theorem GBx.below {P:Nat} {w w':World} (h:GBx s v st ti P w) (hP:P<w.heap.size) (hb:Below w.heap.size w w'):GBx s v st ti P w':=by
 obtain ⟨hcc,_⟩:=bcell hb;exact ⟨Nat.lt_of_lt_of_le h.lt hb.size,(hcc _ _ hP).trans h.c0,(hcc _ _ hP).trans h.c1,(hcc _ _ hP).trans h.c2,(hcc _ _ hP).trans h.c3⟩
theorem q9x (s:ByteArray) (v st ti:Int) (w:World) (hs:s.size≤1000) (ht:Tab w) :
  Rt 203 #[.agg #[.string s,.int .i64 v,.int .i64 st,.int .i64 ti]] w (.int .i64 (errG s.data.toList v st ti)):=by
 have HT:=hj_ ht;have HL:=hj_ (fun w ht=>qaa s w hs ht)
 have HW1:=hj_ (fun w=>qal 65535 v w)
 have HW2:=hj_ (fun w=>qam 10000000 st ti w)
 have HV:=hj_ (show errG s.data.toList v st ti=if errLv s.data.toList≠0 then errLv s.data.toList else if (inT 65535 v && (inT 10000000 st && inT 10000000 ti))=true then 0 else 2 from rfl)
 generalize errG s.data.toList v st ti=k at *;generalize errLv s.data.toList=k1 at *;generalize inT 65535 v=b1 at *;generalize (inT 10000000 st && inT 10000000 ti)=b2 at *;obtain ⟨W,hW⟩:=ex_ (w.alloc (.cells #[.string s,.int .i64 v,.int .i64 st,.int .i64 ti] 262));have hG:=GBx.fresh w s v st ti;have hB0:Below w.heap.size w W:=by rw [hW];exact (Below.refl _ w).alloc lr_ _
 rw [← hW] at hG;have HP:=hj_ hG.lt;have HT:=hj_ (ht.below hB0);have HG:=hj_ hG;have HW:=hj_ hW;have HB0:=hj_ hB0;clear hs ht hW hG hB0;have hB:=Below.refl W.heap.size W
 by_cases h1:k1=0
 ·subst h1
  cases b1 <;> cases b2
  all_goals
   have hv:=HV.out;simp at hv;subst hv;clear HV
   go_enter func203,ntmps203
   go_wp2_with fail;rw [← HW.out];go_wp2_with (first | (go_at_call 259;with_reducible refine uq_ (HL.out _ (HT.out.below hB)) hB fun wk hB=>?_;obtain ⟨-,c0,c1,c2,c3⟩:=HG.out.below HP.out hB) | (go_at_call 260;with_reducible refine uq_ (HW1.out _) hB fun wk hB=>?_;obtain ⟨-,c0,c1,c2,c3⟩:=HG.out.below HP.out hB) | (go_at_call 260;with_reducible refine uq_ (HW2.out _) hB fun wk hB=>?_;obtain ⟨-,c0,c1,c2,c3⟩:=HG.out.below HP.out hB))
   go_ret;exact ⟨rfl,ht_ HB0.out hB⟩
 ·have hv:=HV.out
  rw [if_pos h1] at hv;have g1:(k1 == 0)=false:=by simpa using h1
  have g2:(k1 != 0)=true:=by simpa using h1
  clear HV h1;subst hv
  go_enter func203,ntmps203
  go_wp2_with fail;rw [← HW.out];go_wp2_with (first | (go_at_call 259;with_reducible refine uq_ (HL.out _ (HT.out.below hB)) hB fun wk hB=>?_;obtain ⟨-,c0,c1,c2,c3⟩:=HG.out.below HP.out hB))
  go_ret;exact ⟨rfl,ht_ HB0.out hB⟩
theorem q9t {m:Nat} {a b:Rat} (ha:SzR k a) (hb:SzR m b) {p q:Int} (p0:0≤p) (p1:p≤20000000) (q0:0<q) (q1:q≤20000000) (h:k+(m+k+1+8)+1≤4096) (w:World) (ht:Tab w) :
  Rt 262 #[.string (sR a),.string (sR b),.int .i64 p,.int .i64 q] w (.tuple #[.string (sR (mixR a b (Rat.divInt p q))),.int .i64 0]):=by
 have hB:=Below.refl w.heap.size w;have HT:=hj_ ht;have hn:SzR 8 (Rat.divInt p q):=SzR.red o_ o_ o_
 have HPa:=hj_ (fun w ht=>qk1 (x:=p) (y:=q) o_ o_ o_ o_ o_ w ht)
 have HM:=hj_ (fun w ht=>qjw ha hb hn w ht h)
 generalize sR (mixR a b (Rat.divInt p q))=R at *;generalize sR (Rat.divInt p q)=V at *;clear ha hb hn ht p0 p1 q0 q1 h
 go_enter func262,ntmps262
 go_wp2_with (first | (go_at_call 105;with_reducible refine uq_ (HPa.out _ (HT.out.below hB)) hB fun wk hB=>?_) | (go_at_call 301;with_reducible refine uq_ (HM.out _ (HT.out.below hB)) hB fun wk hB=>?_))
 go_ret2;exact ⟨rfl,hB⟩
def ofT (s:ByteArray) (v st ti t:Int):ByteArray:=if st+ti≤t then sR (v:Rat) else if t≤st then s else sR (mixR (valR s.data.toList) (v:Rat) (Rat.divInt (t-st) ti))
theorem qdy (a b:Rat) (q:Int):mixR a b (Rat.divInt 0 q)=a:=by
 unfold mixR;rw [Rat.zero_divInt]
 grind
theorem q70 (hs:s.size≤1000) (h:errG s.data.toList v st ti=0) :
  ∃ r,s=sR r∧SzR 1000 r∧valR s.data.toList=r∧InL r∧0≤v∧v≤65535∧0≤st∧st≤10000000∧0≤ti∧ti≤10000000:=by
 unfold errG at h
 by_cases h1:errLv s.data.toList=0
 ·rw [if_neg (by simpa using h1)] at h
  rcases qct s hs with ⟨hc,he⟩ | ⟨r,hr,hz,hv,hc,⟨hi,he⟩ | ⟨hi,he⟩⟩
  ·omega
  ·omega
  ·refine ⟨r,hr,hz,hv,hi,?_⟩
   split at h
   ·rename_i h2
    simp [inT] at h2;omega
   ·cases h
 ·rw [if_pos h1] at h
  exact absurd h h1
def atT (s:ByteArray) (v st ti t:Int):ByteArray:=if errG s.data.toList v st ti≠0 then ⟨#[]⟩ else ofT s v st ti t
theorem q9s (s:ByteArray) (v st ti t:Int) (w:World) (hs:s.size≤1000) (t0:-9223372036854775808≤t) (t1:t≤9223372036854775807) (ht:Tab w) :
  Rt 206 #[.agg #[.string s,.int .i64 v,.int .i64 st,.int .i64 ti],.int .i64 t] w (.tuple #[.string (atT s v st ti t),.int .i64 (errG s.data.toList v st ti)]):=by
 have HC:=hj_ (fun w ht=>q9x s v st ti w hs ht)
 obtain ⟨W,hW⟩:=ex_ (w.alloc (.cells #[.string s,.int .i64 v,.int .i64 st,.int .i64 ti] 262));have hG:=GBx.fresh w s v st ti;have hB0:Below w.heap.size w W:=by rw [hW];exact (Below.refl _ w).alloc lr_ _
 rw [← hW] at hG;have HP:=hj_ hG.lt;have HT:=hj_ (ht.below hB0);have HG:=hj_ hG;have HW:=hj_ hW;have HB0:=hj_ hB0;have hB:=Below.refl W.heap.size W;obtain ⟨-,c0,c1,c2,c3⟩:=hG;clear ht hW hB0
 by_cases h1:errG s.data.toList v st ti=0
 ·obtain ⟨r,hr,hz,hv,hi,v0,v1,s0,s1,i0,i1⟩:=q70 hs h1
  have hV:atT s v st ti t=ofT s v st ti t:=by unfold atT;rw [if_neg (by simpa using h1)]
  rw [hV];rw [h1] at HC ⊢
  by_cases g1:t<st
  ·have hV2:ofT s v st ti t=s:=by unfold ofT;rw [if_neg o_,if_pos o_]
   rw [hV2];clear hr hz hv hi hV hV2 h1
   go_enter func206,ntmps206
   go_wp2_with fail;rw [← HW.out];go_wp2_with (first | (go_at_call 203;with_reducible refine uq_ (HC.out _ (HT.out.below hB)) hB fun wk hB=>?_;obtain ⟨-,c0,c1,c2,c3⟩:=HG.out.below HP.out hB))
   go_ret2;exact ⟨rfl,ht_ HB0.out hB⟩
  ·by_cases g2:st+ti≤t
   ·have hV2:ofT s v st ti t=sR (v:Rat):=by unfold ofT;rw [if_pos g2]
    rw [hV2];have HWh:=hj_ (fun w ht=>qke (x:=v) o_ o_ w ht)
    generalize sR (v:Rat)=R at *;clear hr hz hv hi hV hV2 h1
    go_enter func206,ntmps206
    go_wp2_with fail;rw [← HW.out];go_wp2_with (first | (go_at_call 203;with_reducible refine uq_ (HC.out _ (HT.out.below hB)) hB fun wk hB=>?_;obtain ⟨-,c0,c1,c2,c3⟩:=HG.out.below HP.out hB) | (go_at_call 44;with_reducible refine uq_ (HWh.out _ (HT.out.below hB)) hB fun wk hB=>?_;obtain ⟨-,c0,c1,c2,c3⟩:=HG.out.below HP.out hB))
    go_ret2;exact ⟨rfl,ht_ HB0.out hB⟩
   ·have hV2:ofT s v st ti t=sR (mixR r (v:Rat) (Rat.divInt (t-st) ti)):=by
     unfold ofT;rw [if_neg g2]
     by_cases g3:t≤st
     ·rw [if_pos g3,show t-st=0 by omega,qdy,hr]
     ·rw [if_neg g3,hv]
    rw [hV2];have HWh:=hj_ (fun w ht=>qke (x:=v) o_ o_ w ht)
    have HBt:=hj_ (fun w ht=>q9t hz (SzR.int (k:=5) (z:=v) o_ o_) (p:=t-st) (q:=ti) o_ o_ o_ o_ o_ w ht)
    rw [← hr] at HBt;generalize sR (mixR r (v:Rat) (Rat.divInt (t-st) ti))=R at *;generalize sR (v:Rat)=V at *;have e1:IntKind.i64.wrap (t-st)=t-st:=IntWalk.i64_in _ o_
    clear hr hz hv hi hV hV2 h1
    go_enter func206,ntmps206
    go_wp2_with fail;rw [← HW.out];go_wp2_with (first | (go_at_call 203;with_reducible refine uq_ (HC.out _ (HT.out.below hB)) hB fun wk hB=>?_;obtain ⟨-,c0,c1,c2,c3⟩:=HG.out.below HP.out hB))
    replace hB:=q18 hB 1;obtain ⟨-,c0,c1,c2,c3⟩:=HG.out.below HP.out hB
    go_region_held3 (fun w'=>w'.cell? ⟨w.heap.size,0,none⟩=some (.string s)∧w'.cell? ⟨w.heap.size,1,none⟩=some (.int .i64 v)∧w'.cell? ⟨w.heap.size,2,none⟩=some (.int .i64 st)∧w'.cell? ⟨w.heap.size,3,none⟩=some (.int .i64 ti)) (exact ⟨c0,c1,c2,c3⟩) (first | (go_at_call 262;refine uq_ (HBt.out _ (HT.out.below hB)) hB fun wk hB=>?_;obtain ⟨-,c0,c1,c2,c3⟩:=HG.out.below HP.out hB) | (go_at_call 44;refine uq_ (HWh.out _ (HT.out.below hB)) hB fun wk hB=>?_;obtain ⟨-,c0,c1,c2,c3⟩:=HG.out.below HP.out hB))
    go_wp2;go_ret2;exact ⟨rfl,ht_ HB0.out hB⟩
 ·have hV:atT s v st ti t=⟨#[]⟩:=by unfold atT;rw [if_pos h1]
  rw [hV];generalize errG s.data.toList v st ti=k at *;have g1:(k == 0)=false:=by simpa using h1
  have g2:(k != 0)=true:=by simpa using h1
  clear hV h1
  go_enter func206,ntmps206
  go_wp2_with fail;rw [← HW.out];go_wp2_with (first | (go_at_call 203;with_reducible refine uq_ (HC.out _ (HT.out.below hB)) hB fun wk hB=>?_;obtain ⟨-,c0,c1,c2,c3⟩:=HG.out.below HP.out hB))
  go_ret2;exact ⟨rfl,ht_ HB0.out hB⟩
end Go.Proofs.YtabhjdmmfdfpeaaGreatDoor
