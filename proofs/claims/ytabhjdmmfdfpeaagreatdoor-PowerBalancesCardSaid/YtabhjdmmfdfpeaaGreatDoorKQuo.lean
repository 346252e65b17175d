/- Lemmas. -/
import Derived.Test.YtabhjdmmfdfpeaaGreatDoorKRat
namespace Go.Proofs.YtabhjdmmfdfpeaaGreatDoor
set_option maxHeartbeats 32000000
set_option maxRecDepth 100000
open _root_.Go.Proofs.Tryz
open Go.RowKit
variable {p q s x y z:Int} {P k m:Nat} {a b r:Rat} {w w':World}
theorem qnz {P:Program} (mty kt et:TypeId) (d:TypeDesc) (r clock:Nat) (es:Array MapEntry) (key val:Value) (hm:P.underlying mty=some (.map kt et)) (hk:P.underlying kt=some d) (hi:MapKept.IsKey d key)
  (hb:w.heap[r]? = some (.map es clock)) (hf:Instr.findNow d key es.toList 0=some none) :
  (Instr.mapUpdate mty (.map (some r)) key val).run P w=.ok () { w with heap:=w.heap.setIfInBounds r (.map (es.push { key:=key,val:=val,born:=clock }) (clock+1)) }:=by
 have hc:(Instr.checkKey false 10000 kt key).run P w=.ok () w:=MapKept.run_checkKey hk hi false 9999;simp [Instr.mapUpdate,run_underlying hm,MapKept.run_getObj_map hb,hc,MapKept.run_findKey hk hf,MapKept.run_setObj_map _ hb,Result.andThen]
theorem qnw {P:Program} (mty kt et:TypeId) (d:TypeDesc) (r clock i:Nat) (es:Array MapEntry) (key val:Value) (hm:P.underlying mty=some (.map kt et)) (hk:P.underlying kt=some d) (hi:MapKept.IsKey d key)
  (hb:w.heap[r]? = some (.map es clock)) (hf:Instr.findNow d key es.toList 0=some (some (i,val))) :
  (Instr.lookup mty (.map (some r)) key false).run P w=.ok val w:=by
 have hc:∀ b,(Instr.checkKey b 10000 kt key).run P w=.ok () w:=fun b=>MapKept.run_checkKey hk hi b 9999
 simp [Instr.lookup,run_underlying hm,MapKept.run_getObj_map hb,hc,MapKept.run_findKey hk hf,Result.andThen]
theorem map_set {r:Nat} {o o':Obj} (hb:w.heap[r]? = some o) (W:World) (hW:W = { w with heap:=w.heap.setIfInBounds r o' }):W.heap[r]? = some o'∧w.grownBy W (some r):=by
 subst hW;have hr:r<w.heap.size:=by
  rcases Nat.lt_or_ge r w.heap.size with h | h
  ·exact h
  ·rw [Array.getElem?_eq_none h] at hb;cases hb
 refine ⟨?_,⟨rfl,rfl,rfl,s_,fun k _ hne=>?_⟩⟩
 ·show (w.heap.setIfInBounds r o')[r]? = _
  rw [Array.getElem?_setIfInBounds,if_pos rfl,if_pos hr]
 ·show (w.heap.setIfInBounds r o')[k]? = _
  rw [Array.getElem?_setIfInBounds,if_neg (fun e=>hne (by rw [e]))]
theorem q001 {P:Program} (w:World) {ops:Array Oper} {rest:List Oper} {o:Oper} {a:Act} {Q:Exit→Act→World→Prop}
  (hg:o.guard=none) (m x v:Operand) (t:TypeId) (hop:o.op=Op.insert t m x v) (kt et:TypeId) (d:TypeDesc) (hm:P.underlying t=some (.map kt et)) (hk:P.underlying kt=some d)
  (r clock:Nat) (es:Array MapEntry) (key val:Value) (he:a.eval m=.map (some r)) (hx:a.eval x=key) (hv:a.eval v=val) (hi:MapKept.IsKey d key) (hb:w.heap[r]? = some (.map es clock)) (hf:Instr.findNow d key es.toList 0=some none)
  (hK:∀ w',w'.heap[r]? = some (.map (es.push { key:=key,val:=val,born:=clock }) (clock+1))→w.grownBy w' (some r)→wpList P ops Q rest (a.put o.dst undef) w') :
  wpList P ops Q (o :: rest) a w:=by
 refine wpList_plain hg fun K' hK'=>?_
 have hrun:=qnz t kt et d r clock es key val hm hk hi hb hf;obtain ⟨h1,h2⟩:=map_set (o':=.map (es.push { key:=key,val:=val,born:=clock }) (clock+1)) hb _ rfl;unfold Oper.wp;simp [execOp,hop,he,hx,hv,hrun,Result.andThen];exact hK' _ _ (hK _ h1 h2)
theorem qrr (s:ByteArray) (k:Nat):(s.extract 0 k).data.toList=s.data.toList.take k:=by
 rw [ByteArray.data_extract,Array.toList_extract,List.extract_eq_take_drop];simp
theorem q6b (s:ByteArray) (k:Nat):(s.extract k s.size).data.toList=s.data.toList.drop k:=by
 rw [ByteArray.data_extract,Array.toList_extract,List.extract_eq_take_drop]
 apply List.take_of_length_le
 simp
theorem qcp (s:ByteArray) (w:World) (hs:s.size≤9223372036854775807) :
  Calls prog 166 #[.string s,.string ⟨#[47]⟩] w fun e w'=>e=.returned (.tuple #[.string ⟨(headB 47 s.data.toList).toArray⟩,.string ⟨(tailB 47 s.data.toList).toArray⟩,.bool (hasB 47 s.data.toList)])∧∃ n,w' = w.drewN n:=by
 have HI:=hj_ (fun w=>stringslite_Index_one s 47 w)
 obtain ⟨i1,i2⟩:=q1u 47 s.data.toList
 cases hb:hasB 47 s.data.toList
 ·obtain ⟨h1,h2⟩:=qau hb
  rw [i2 hb] at HI;have HV:=hj_ (show s=⟨(headB 47 s.data.toList).toArray⟩ from bs_of h1.symm)
  rw [h2];clear i1 i2 h1 h2 hb
  go_enter func166,ntmps166
  go_wp2_with (go_at_call 230;refine (HI.out _).mono ?_;rintro e w1 ⟨rfl,rfl⟩)
  go_ret3
  exact ⟨by rw [← HV.out];rfl,0,rfl⟩
 ·obtain ⟨h1,h2,h3⟩:=qaw hb
  rw [i1 hb] at HI;have HV:=hj_ (show s.extract 0 (headB 47 s.data.toList).length=⟨(headB 47 s.data.toList).toArray⟩ from bs_of (by rw [qrr,← h1]))
  have HW:=hj_ (show s.extract ((headB 47 s.data.toList).length+1) s.size=⟨(tailB 47 s.data.toList).toArray⟩ from bs_of (by rw [q6b,← h2]))
  rw [q1y] at h3;generalize (headB 47 s.data.toList).length=k at *;have c1:(0:Int)≤↑k:=o_
  have c2:(↑k:Int)≤↑s.size:=o_
  have c3:(0:Int)≤↑k+1:=o_
  have c4:(↑k+1:Int)≤↑s.size:=o_
  clear i1 i2 h1 h2 hb
  go_enter func166,ntmps166
  go_wp2_with (go_at_call 230;refine (HI.out _).mono ?_;rintro e w1 ⟨rfl,rfl⟩)
  go_region
  go_wp2
  go_ret3
  exact ⟨by rw [← HV.out,← HW.out];rfl,1,rfl⟩
theorem qou (s:ByteArray) (w:World) (hs:s.size≤9223372036854775807) :
  Calls prog 117 #[.string s,.string ⟨#[47]⟩] w fun e w'=>e=.returned (.tuple #[.string ⟨(headB 47 s.data.toList).toArray⟩,.string ⟨(tailB 47 s.data.toList).toArray⟩,.bool (hasB 47 s.data.toList)])∧∃ n,w' = w.drewN n:=by
 have HI:=hj_ (fun w=>qcp s w hs)
 go_enter func117,ntmps117
 go_wp2_with (go_at_call 166;refine (HI.out _).mono ?_;rintro e w1 ⟨rfl,n,rfl⟩)
 go_ret3
 exact ⟨rfl,n,rfl⟩
def topB (s:ByteArray):ByteArray:=⟨(topT s.data.toList).toArray⟩
def botB (s:ByteArray):ByteArray:=⟨(botT s.data.toList).toArray⟩
theorem qk2 (s:ByteArray) (w:World) (hs:s.size≤9223372036854775807) :
  Rt 72 #[.string s] w (.tuple #[.string (topB s),.string (botB s),.bool (qpv s.data.toList)]):=by
 have hC:=fun w=>qou s w hs
 obtain ⟨e1,e2,e3⟩:=qav s.data.toList;rw [e1,e2] at hC
 cases h:qpv s.data.toList
 ·have HV:=hj_ (show (⟨#[49]⟩:ByteArray)=botB s by unfold botB botT;rw [h];rfl)
  have HT:=hj_ (show (⟨(topT s.data.toList).toArray⟩:ByteArray)=topB s from rfl)
  rw [h] at hC;have HC:=hj_ hC;clear hC e1 e2 e3 h
  go_enter func72,ntmps72
  go_wp2_with (go_at_call 117;refine (HC.out _).mono ?_;rintro e w1 ⟨rfl,n,rfl⟩)
  go_ret3
  exact ⟨by rw [← HV.out,← HT.out];rfl,q18 (br_) n⟩
 ·have HV:=hj_ (show (⟨(tailB 47 s.data.toList).toArray⟩:ByteArray)=botB s by unfold botB;rw [e3 h])
  have HT:=hj_ (show (⟨(topT s.data.toList).toArray⟩:ByteArray)=topB s from rfl)
  rw [h] at hC;have HC:=hj_ hC;clear hC e1 e2 e3 h
  go_enter func72,ntmps72
  go_wp2_with (go_at_call 117;refine (HC.out _).mono ?_;rintro e w1 ⟨rfl,n,rfl⟩)
  go_ret3
  exact ⟨by rw [← HV.out,← HT.out];rfl,q18 (br_) n⟩
theorem qsz (s:BT):Lib.trimPrefix s [45]=bodyT s:=by
 unfold Lib.trimPrefix
 cases s with
 | nil=>rfl
 | cons c t =>
  by_cases h:c=45
  ·subst h;rfl
  ·rw [q1h h]
   have:([45]:BT).isPrefixOf (c :: t)=false:=by
    show ((45 == c) && true)=false
    rw [Bool.and_true,beq_eq_false_iff_ne];exact fun e=>h e.symm
   rw [if_neg (by rw [show Lib.hasPrefix (c :: t) [45]=false from this];simp)]
def bodB (s:ByteArray):ByteArray:=⟨(bodyT s.data.toList).toArray⟩
theorem qjo (s:ByteArray) (w:World) :
  Calls prog 74 #[.string s] w fun e w'=>e=.returned (.string (bodB s))∧w' = w:=by
 have hT:=fun w=>strings_TrimPrefix s ⟨#[45]⟩ w
 simp only [qsz] at hT;have HT:=hj_ hT;clear hT
 go_enter func74,ntmps74
 go_wp2_with (go_at_call 119;refine (HT.out _).mono ?_;rintro e w1 ⟨rfl,rfl⟩);go_ret;exact ⟨rfl,rfl⟩
theorem q2s (s:BT):chkI s≠3↔(bodyT s≠[]∧Dgs (bodyT s)∧((bodyT s).head?≠some 48∨s=[48])):=by
 have hs:=qs3 s;unfold chkI
 constructor
 ·intro h
  split at h
  ·exact absurd rfl h
  ·rename_i hc
   refine ⟨fun e=>hc (.inl e),Classical.not_not.1 fun e=>hc (.inr (.inl e)),?_⟩
   by_cases h0:(bodyT s).head? = some 48
   ·refine .inr ?_
    have h3:¬ (1<(bodyT s).length∨negT s=true):=fun e=>hc (.inr (.inr ⟨h0,e⟩))
    have hn:negT s=false:=by cases hn:negT s;rfl;exact absurd (.inr hn) h3
    rw [hn] at hs;have hs':s=bodyT s:=hs;have hl:(bodyT s).length≤1:=Nat.not_lt.1 fun e=>h3 (.inl e)
    rw [hs']
    cases hb:bodyT s with
    | nil=>rw [hb] at h0;cases h0
    | cons c t =>
     rw [hb] at h0 hl;simp at h0 hl;rw [h0,hl]
   ·exact .inl h0
 ·rintro ⟨h1,h2,h3⟩
  rw [if_neg]
  ·split <;> decide
  ·rintro (h | h | ⟨h4,h5⟩)
   ·exact h1 h
   ·exact h h2
   ·rcases h3 with h3 | h3
    ·exact h3 h4
    ·subst h3
     revert h5
     decide
theorem qjh (s:ByteArray) (w:World) (hs:s.size≤1000000000) :
  Rt 73 #[.string s] w (.bool (decide (chkI s.data.toList≠3))):=by
 have HD:=hj_ (fun w=>qjo s w)
 have hz:(bodB s).size≤9223372036854775807:=qps (s:=s) rfl hs;have HT:=hj_ (fun w=>qsy (bodB s) w hz)
 have hbe:(bodB s).toList=bodyT s.data.toList:=by rw [ByteArray.toList_eq];rfl
 have hbl:(bodB s).data.toList=bodyT s.data.toList:=rfl;rw [hbl] at HT;have hc:=q2s s.data.toList;clear hs hbl hz
 by_cases h1:bodyT s.data.toList=[]
 ·have HV:=hj_ (show decide (chkI s.data.toList≠3)=false from decide_eq_false fun h=>(hc.1 h).1 h1)
  have g1:(bodB s).toList.isEmpty=true:=by rw [hbe,h1];rfl
  generalize bodB s=B at *;clear hc hbe h1
  go_enter func73,ntmps73
  go_wp2_with (go_at_call 74;refine (HD.out _).mono ?_;rintro e w1 ⟨rfl,rfl⟩);go_ret;exact ⟨by rw [HV.out];rfl,br_⟩
 have g1:(bodB s).toList.isEmpty=false:=by rw [hbe];cases hx:bodyT s.data.toList with | nil=>exact absurd hx h1 | cons c t=>rfl
 have gl:0<(bodB s).size:=by
  have:(bodB s).size=(bodyT s.data.toList).length:=by rw [← q1y];rfl
  rw [this];exact List.length_pos_iff.2 h1
 have gh:(bodyT s.data.toList).head? = some ((bodB s)[0]):=by
  show (bodB s).data.toList.head? = _
  rw [List.head?_eq_getElem?,List.getElem?_eq_getElem (by simpa using gl)];rfl
 by_cases h2:Dgs (bodyT s.data.toList)
 ·have ht:(Lib.trimS (bodyT s.data.toList) cut10).isEmpty=true:=List.isEmpty_iff.2 (qt0.2 h2)
  have g0:=qbx s;have hcc:((bodB s)[0].toNat:Int)=48↔(bodB s)[0]=48:=by
   rw [← UInt8.toNat_inj];show _↔(bodB s)[0].toNat=48;omega
  have hx:decide (chkI s.data.toList≠3)=(!((((bodB s)[0].toNat:Int)) == 48) || (s.toList == [48])):=by
   rw [g0,Bool.eq_iff_iff,decide_eq_true_eq,hc,gh,Bool.or_eq_true,decide_eq_true_eq];simp only [Bool.not_eq_true',beq_eq_false_iff_ne,ne_eq,hcc,Option.some.injEq];exact ⟨fun h=>h.2.2,fun h=>⟨h1,h2,h⟩⟩
  have HX:=hj_ hx;generalize bodB s=B at *;clear hc hbe h1 h2 gh hcc hx g0
  by_cases h3:(B[0].toNat:Int)=48
  ·have e1:((B[0].toNat:Int) == 48)=true:=by simpa using h3
   have e2:((B[0].toNat:Int) != 48)=false:=by simpa using h3
   clear h3
   go_enter func73,ntmps73
   go_wp2_with (first | (go_at_call 74;refine (HD.out _).mono ?_;rintro e w1 ⟨rfl,rfl⟩) | (go_at_call 118;refine (HT.out _).mono ?_;rintro e w2 ⟨rfl,hb2⟩))
   go_ret;exact ⟨by rw [HX.out,e1];rfl,hb2⟩
  ·have e1:((B[0].toNat:Int) == 48)=false:=by simpa using h3
   have e2:((B[0].toNat:Int) != 48)=true:=by simpa using h3
   clear h3
   go_enter func73,ntmps73
   go_wp2_with (first | (go_at_call 74;refine (HD.out _).mono ?_;rintro e w1 ⟨rfl,rfl⟩) | (go_at_call 118;refine (HT.out _).mono ?_;rintro e w2 ⟨rfl,hb2⟩))
   go_ret;exact ⟨by rw [HX.out,e1];rfl,hb2⟩
 ·have HV:=hj_ (show decide (chkI s.data.toList≠3)=false from decide_eq_false fun h=>h2 (hc.1 h).2.1)
  have ht:(Lib.trimS (bodyT s.data.toList) cut10).isEmpty=false:=by
   cases he:(Lib.trimS (bodyT s.data.toList) cut10).isEmpty
   ·rfl
   ·exact absurd (qt0.1 (List.isEmpty_iff.1 he)) h2
  generalize bodB s=B at *;clear hc hbe h1 h2 gh
  go_enter func73,ntmps73
  go_wp2_with (first | (go_at_call 74;refine (HD.out _).mono ?_;rintro e w1 ⟨rfl,rfl⟩) | (go_at_call 118;refine (HT.out _).mono ?_;rintro e w2 ⟨rfl,hb2⟩))
  go_ret;exact ⟨by rw [HV.out];rfl,hb2⟩
theorem q8i (hx:Fit x) (hy:Fit y):Fit (Nat.gcd x.natAbs y.natAbs:Int):=by
 by_cases h:y=0
 ·rw [h,show (0:Int).natAbs=0 from rfl,Nat.gcd_zero_right]
  exact fit_le hx o_
 ·exact fit_le hy (by have:=Nat.gcd_le_right (n:=y.natAbs) x.natAbs o_;omega)
theorem qc6 (z:Int):Lib.itoa z≠[]:=by
 by_cases h:z<0
 ·rw [qc7 h];simp
 ·rw [qca o_];exact dec_ne _
theorem qjl (hx:Fit x) (hy:Fit y) (w:World) (ht:Tab w) :
  Rt 75 #[.string (sI x),.string (sI y)] w (.tuple #[.bool (decide (Nat.gcd x.natAbs y.natAbs=1)),.int .i64 0]):=by
 have HG:=hj_ (q9w hx hy (z:=(Nat.gcd x.natAbs y.natAbs:Int)) (q8i hx hy) rfl w ht);have g:=qf8 (Nat.gcd x.natAbs y.natAbs:Int);rw [show decide ((Nat.gcd x.natAbs y.natAbs:Int)=1)=decide (Nat.gcd x.natAbs y.natAbs=1) by rw [decide_eq_decide];omega] at g
 generalize ((Nat.gcd x.natAbs y.natAbs:Nat):Int)=G at *
 cases hd:decide (Nat.gcd x.natAbs y.natAbs=1)
 all_goals
  rw [hd] at g;clear hx hy ht hd
  go_enter func75,ntmps75
  go_wp2_with (go_at_call 120;refine HG.out.mono ?_;rintro e w1 ⟨rfl,hb1⟩);go_ret2;exact ⟨rfl,hb1⟩
theorem qji (s:ByteArray) (w:World) (hs:s.size≤1000000000) (ht:Tab w) :
  Rt 42 #[.string s] w (.int .i64 (chkR s.data.toList)):=by
 have hB:=Below.refl w.heap.size w;have HT:=hj_ ht;have HP:=hj_ (fun w=>qk2 s w o_)
 have lP:(topB s).data.toList=topT s.data.toList:=rfl;have lQ:(botB s).data.toList=botT s.data.toList:=rfl;have hb:(botT s.data.toList).length≤s.size+1:=by
  cases h:qpv s.data.toList
  ·unfold botT;rw [h];simp
  ·rw [q1k h,List.length_drop,q1y];omega
 have hkle:=qst s.data.toList;rw [q1y] at hkle;have one_le:s.size=1000000000→qpv s.data.toList=true→(botT s.data.toList).length≤1000000000:=fun h1 h2=>by
  rw [q1k h2,List.length_drop,q1y];omega
 have zP:(topB s).size≤1000000000:=by rw [← q1y,lP];omega
 have zQ:(botB s).size≤1000000000:=by
  rw [← q1y,lQ]
  cases h:qpv s.data.toList
  ·unfold botT;rw [h];simp
  ·rw [q1k h,List.length_drop,q1y];omega
 have hA:=fun w=>qjh (topB s) w zP
 have hC:=fun w=>qjh (botB s) w zQ
 rw [lP] at hA;rw [lQ] at hC;generalize topB s=P at *;generalize botB s=Q at *;clear hb hkle one_le ht
 by_cases c1:chkI (topT s.data.toList)=3
 ·have HV:=hj_ (show chkR s.data.toList=3 by unfold chkR;rw [if_pos (.inl c1)])
  simp only [c1,ne_eq,not_true_eq_false,decide_false] at hA;have HA:=hj_ hA;generalize qpv s.data.toList=sl at *;clear hA hC lP lQ zP zQ c1
  go_enter func42,ntmps42
  go_wp2_with (first | (go_at_call 72;with_reducible refine up_ (HP.out _) hB fun wk hB=>?_) | (go_at_call 73;with_reducible refine up_ (HA.out _) hB fun wk hB=>?_))
  go_ret;exact ⟨by rw [HV.out];rfl,hB⟩
 by_cases c2:chkI (botT s.data.toList)=3
 ·have HV:=hj_ (show chkR s.data.toList=3 by unfold chkR;rw [if_pos (.inr c2)])
  simp only [decide_eq_true c1] at hA;simp only [c2,ne_eq,not_true_eq_false,decide_false] at hC;have HA:=hj_ hA;have HC:=hj_ hC;generalize qpv s.data.toList=sl at *;clear hA hC lP lQ zP zQ c1 c2
  go_enter func42,ntmps42
  go_wp2_with (first | (go_at_call 72;with_reducible refine up_ (HP.out _) hB fun wk hB=>?_) | (go_at_call 73;with_reducible refine up_ (HA.out _) hB fun wk hB=>?_) | (go_at_call 73;with_reducible refine up_ (HC.out _) hB fun wk hB=>?_))
  go_ret;exact ⟨by rw [HV.out];rfl,hB⟩
 obtain ⟨x,hx⟩:=q2x c1;obtain ⟨y,hy⟩:=q2x c2;simp only [decide_eq_true c1] at hA;simp only [decide_eq_true c2] at hC;rw [hx] at lP;rw [hy] at lQ;obtain rfl:=sI_of lP;obtain rfl:=sI_of lQ;have HA:=hj_ hA;have HC:=hj_ hC;have HD:=hj_ (fun w=>qjo (sI x) w)
 have lm:(bodB (sI x)).size=(Lib.decDigits x.natAbs).length:=by rw [← q1y];show (bodyT (sI x).data.toList).length=_;rw [qoc,q1f]
 have u0:=qbx (sI y);have u1:=qf8 y;have e0:decide ((sI y).data.toList=[48])=decide (y=0):=by rw [decide_eq_decide,qoc];exact qc0
 rw [e0] at u0;have un:0<(sI y).size:=by rw [← q1y,qoc];exact List.length_pos_iff.2 (qc6 y)
 have u45:((sI y)[0].toNat:Int)=45↔y<0:=by
  rw [← qen (sI y) un,qoc,qeg,decide_eq_true_eq]
 have ly:0≤y→(sI y).size=(Lib.decDigits y.natAbs).length:=fun h=>by rw [← q1y,qoc,qca h]
 have hv:chkR s.data.toList=if qpv s.data.toList=true∧(y≤0∨y=1) then 3 else if 4096<(Lib.decDigits x.natAbs).length∨4096<(Lib.decDigits y.natAbs).length then 23 else if qpv s.data.toList=true∧Nat.gcd x.natAbs y.natAbs≠1 then 3 else 0:=by
  have e1:(Lib.itoa y=[49])↔y=1:=⟨fun h=>qc2 (h.trans qc9.symm),fun h=>by rw [h,qc9]⟩
  unfold chkR;rw [hx,hy,qyz,qyz,q1f,q1f,← hx,← hy,if_neg (by rintro (h | h);exact c1 h;exact c2 h),hy]
  simp only [e1]
 have hfx:¬ 4096<(Lib.decDigits x.natAbs).length→Fit x:=q8f.2;have hfy:¬ 4096<(Lib.decDigits y.natAbs).length→Fit y:=q8f.2;rw [← lm] at hv hfx;have hslash:qpv s.data.toList=false→y=1:=fun h=>by
  have:botT s.data.toList=[49]:=by unfold botT;rw [h];rfl
  rw [hy] at this;exact qc2 (this.trans qc9.symm)
 generalize bodB (sI x)=B at *;have HV:=hj_ hv;clear hA hC zP zQ c1 c2 hx lm hv e0
 cases hc:qpv s.data.toList
 ·rw [hc] at HV HP
  obtain rfl:=hslash hc;have hl1:(Lib.decDigits (1:Int).natAbs).length=1:=by rw [show (1:Int).natAbs=1 from rfl,q4w o_];rfl
  have ls:=ly o_
  rw [hl1] at ls hfy HV;have hy1:=hfy o_
  have hsz:¬ 4096<(sI 1).size:=o_
  clear hslash hc hy u0 u1 hfy ly hl1 ls u45
  by_cases d1:4096<B.size
  ·replace HV:=hj_ (HV.out.trans (by rw [if_neg s_,if_pos (.inl d1)]))
   clear hfx hsz hy1
   go_enter func42,ntmps42
   go_wp2_with (first | (go_at_call 72;with_reducible refine up_ (HP.out _) hB fun wk hB=>?_) | (go_at_call 73;with_reducible refine up_ (HA.out _) hB fun wk hB=>?_) | (go_at_call 73;with_reducible refine up_ (HC.out _) hB fun wk hB=>?_) | (go_at_call 74;refine (HD.out _).mono ?_;rintro e w1 ⟨rfl,rfl⟩))
   go_ret;exact ⟨by rw [HV.out];rfl,hB⟩
  replace HV:=hj_ (HV.out.trans (by rw [if_neg s_,if_neg o_,if_neg s_]))
  have hg:=fun w ht=>qjl (hfx d1) hy1 w ht
  have hgt:decide (Nat.gcd x.natAbs (1:Int).natAbs=1)=true:=decide_eq_true (Nat.gcd_one_right _);simp only [hgt] at hg;clear hgt;have HG:=hj_ hg;clear hfx hg hy1
  go_enter func42,ntmps42
  go_wp2_with (first | (go_at_call 72;with_reducible refine up_ (HP.out _) hB fun wk hB=>?_) | (go_at_call 73;with_reducible refine up_ (HA.out _) hB fun wk hB=>?_) | (go_at_call 73;with_reducible refine up_ (HC.out _) hB fun wk hB=>?_) | (go_at_call 74;refine (HD.out _).mono ?_;rintro e w1 ⟨rfl,rfl⟩) | (go_at_call 75;with_reducible refine up_ (HG.out _ (HT.out.below hB)) hB fun wk hB=>?_))
  go_ret;exact ⟨by rw [HV.out];rfl,hB⟩
 rw [hc] at HV HP;clear hslash hc hy
 by_cases y0:y<0
 ·replace HV:=hj_ (HV.out.trans (by rw [if_pos ⟨rfl,.inl o_⟩]))
  have e45:((sI y)[0].toNat:Int)=45:=u45.2 y0;have e46:(((sI y)[0].toNat:Int) == 45)=true:=by simpa using e45
  clear u0 u1 hfx hfy y0 u45 ly e45
  go_enter func42,ntmps42
  go_wp2_with (first | (go_at_call 72;with_reducible refine up_ (HP.out _) hB fun wk hB=>?_) | (go_at_call 73;with_reducible refine up_ (HA.out _) hB fun wk hB=>?_) | (go_at_call 73;with_reducible refine up_ (HC.out _) hB fun wk hB=>?_))
  go_ret;exact ⟨by rw [HV.out];rfl,hB⟩
 have e46:(((sI y)[0].toNat:Int) == 45)=false:=by
  rw [beq_eq_false_iff_ne];exact fun h=>y0 (u45.1 h)
 clear u45
 by_cases yz:y=0
 ·replace HV:=hj_ (HV.out.trans (by rw [if_pos ⟨rfl,.inl o_⟩]))
  rw [decide_eq_true yz] at u0;clear u1 hfx hfy y0 ly yz
  go_enter func42,ntmps42
  go_wp2_with (first | (go_at_call 72;with_reducible refine up_ (HP.out _) hB fun wk hB=>?_) | (go_at_call 73;with_reducible refine up_ (HA.out _) hB fun wk hB=>?_) | (go_at_call 73;with_reducible refine up_ (HC.out _) hB fun wk hB=>?_))
  go_ret;exact ⟨by rw [HV.out];rfl,hB⟩
 rw [decide_eq_false yz] at u0
 by_cases y1:y=1
 ·replace HV:=hj_ (HV.out.trans (by rw [if_pos ⟨rfl,.inr y1⟩]))
  rw [decide_eq_true y1] at u1;clear hfx hfy y0 y1 ly yz
  go_enter func42,ntmps42
  go_wp2_with (first | (go_at_call 72;with_reducible refine up_ (HP.out _) hB fun wk hB=>?_) | (go_at_call 73;with_reducible refine up_ (HA.out _) hB fun wk hB=>?_) | (go_at_call 73;with_reducible refine up_ (HC.out _) hB fun wk hB=>?_))
  go_ret;exact ⟨by rw [HV.out];rfl,hB⟩
 rw [decide_eq_false y1] at u1;have ls:=ly o_
 rw [← ls] at hfy HV;clear ly ls
 by_cases d1:4096<B.size
 ·replace HV:=hj_ (HV.out.trans (by rw [if_neg o_,if_pos (.inl d1)]))
  clear hfx hfy y0 y1 yz
  go_enter func42,ntmps42
  go_wp2_with (first | (go_at_call 72;with_reducible refine up_ (HP.out _) hB fun wk hB=>?_) | (go_at_call 73;with_reducible refine up_ (HA.out _) hB fun wk hB=>?_) | (go_at_call 73;with_reducible refine up_ (HC.out _) hB fun wk hB=>?_) | (go_at_call 74;refine (HD.out _).mono ?_;rintro e w1 ⟨rfl,rfl⟩))
  go_ret;exact ⟨by rw [HV.out];rfl,hB⟩
 by_cases d2:4096<(sI y).size
 ·replace HV:=hj_ (HV.out.trans (by rw [if_neg o_,if_pos (.inr d2)]))
  clear hfx hfy y0 y1 yz
  go_enter func42,ntmps42
  go_wp2_with (first | (go_at_call 72;with_reducible refine up_ (HP.out _) hB fun wk hB=>?_) | (go_at_call 73;with_reducible refine up_ (HA.out _) hB fun wk hB=>?_) | (go_at_call 73;with_reducible refine up_ (HC.out _) hB fun wk hB=>?_) | (go_at_call 74;refine (HD.out _).mono ?_;rintro e w1 ⟨rfl,rfl⟩))
  go_ret;exact ⟨by rw [HV.out];rfl,hB⟩
 have hg:=fun w ht=>qjl (hfx d1) (hfy d2) w ht
 by_cases hgc:Nat.gcd x.natAbs y.natAbs=1
 ·replace HV:=hj_ (HV.out.trans (by rw [if_neg o_,if_neg o_,if_neg o_]))
  simp only [decide_eq_true hgc] at hg;have HG:=hj_ hg;clear hfx hfy y0 y1 yz hg hgc
  go_enter func42,ntmps42
  go_wp2_with (first | (go_at_call 72;with_reducible refine up_ (HP.out _) hB fun wk hB=>?_) | (go_at_call 73;with_reducible refine up_ (HA.out _) hB fun wk hB=>?_) | (go_at_call 73;with_reducible refine up_ (HC.out _) hB fun wk hB=>?_) | (go_at_call 74;refine (HD.out _).mono ?_;rintro e w1 ⟨rfl,rfl⟩) | (go_at_call 75;with_reducible refine up_ (HG.out _ (HT.out.below hB)) hB fun wk hB=>?_))
  go_ret;exact ⟨by rw [HV.out];rfl,hB⟩
 replace HV:=hj_ (HV.out.trans (by rw [if_neg o_,if_neg o_,if_pos ⟨rfl,hgc⟩]))
 simp only [decide_eq_false hgc] at hg;have HG:=hj_ hg;clear hfx hfy y0 y1 yz hg hgc
 go_enter func42,ntmps42
 go_wp2_with (first | (go_at_call 72;with_reducible refine up_ (HP.out _) hB fun wk hB=>?_) | (go_at_call 73;with_reducible refine up_ (HA.out _) hB fun wk hB=>?_) | (go_at_call 73;with_reducible refine up_ (HC.out _) hB fun wk hB=>?_) | (go_at_call 74;refine (HD.out _).mono ?_;rintro e w1 ⟨rfl,rfl⟩) | (go_at_call 75;with_reducible refine up_ (HG.out _ (HT.out.below hB)) hB fun wk hB=>?_))
 go_ret;exact ⟨by rw [HV.out];rfl,hB⟩
theorem qem (hx:Fit x) (w:World) (ht:Tab w) :
  Rt 183 #[.string (sI x)] w (.tuple #[.string (sI (-x)),.int .i64 0]):=by
 have:=qej (sI x) w (Nat.le_trans (qod hx) d_) ht
 rw [show ([48]:BT)=(sI 0).data.toList from q00m.symm,opT_sI (z:=-x) q8k hx (fit_le hx o_) o_] at this
 exact this
theorem qoe (r:Rat):(r.den=1∧((sI (r.den:Int)).toList == [49])=true∧sR r=sI r.num)∨(r.den≠1∧((sI (r.den:Int)).toList == [49])=false∧sI r.num ++ ⟨#[47]⟩ ++ sI (r.den:Int)=sR r):=by
 have g1:=qf8 (r.den:Int)
 by_cases h:r.den=1
 ·rw [decide_eq_true o_] at g1
  exact .inl ⟨h,g1,qoi h⟩
 ·rw [decide_eq_false o_] at g1
  exact .inr ⟨h,g1,qoh h⟩
theorem qk4 (hx:Fit x) (hy:Fit y) (h0:y≠0) (w:World) (ht:Tab w) :
  Rt 123 #[.string (sI x),.string (sI y)] w (.tuple #[.string (sR (Rat.divInt x y)),.int .i64 0]):=by
 have hB:=Below.refl w.heap.size w;have HT:=hj_ ht;have hg0:=gcd_ne (x:=x) h0;have fg:=q8i hx hy;have fgn:Fit (-(Nat.gcd x.natAbs y.natAbs:Int)):=fit_le fg o_
 have HG:=hj_ (fun w ht=>q9w hx hy (z:=(Nat.gcd x.natAbs y.natAbs:Int)) fg rfl w ht)
 have HN:=hj_ (fun w ht=>qem fg w ht)
 obtain ⟨p1,p2⟩:=qlq (x:=x) h0;have hG:redG x y=if y<0 then -(Nat.gcd x.natAbs y.natAbs:Int) else (Nat.gcd x.natAbs y.natAbs:Int):=rfl
 obtain ⟨fn,fd⟩:=qlp hx hy h0;have n1:(sI (Rat.divInt x y).num).size≤4097:=qod fn;have n2:(sI ((Rat.divInt x y).den:Int)).size≤4097:=qod fd;have un:0<(sI y).size:=by rw [← q1y,qoc];exact List.length_pos_iff.2 (qc6 y)
 have u45:((sI y)[0].toNat:Int)=45↔y<0:=by
  rw [← qen (sI y) un,qoc,qeg,decide_eq_true_eq]
 generalize Nat.gcd x.natAbs y.natAbs=g at *
 by_cases hneg:y<0
 ·rw [if_pos hneg] at hG
  rw [hG] at p1 p2;have HF1:=hj_ (fun w ht=>qka hx fgn o_ p1 w ht)
  have HF2:=hj_ (fun w ht=>qka hy fgn o_ p2 w ht)
  have e45:=u45.2 hneg;have e46:(((sI y)[0].toNat:Int) == 45)=true:=by simpa using e45
  rcases qoe (Rat.divInt x y) with ⟨-,g1,hv⟩ | ⟨-,g1,hv⟩
  all_goals
   have HV:=hj_ hv;generalize Rat.divInt x y=r at *;clear hx hy h0 ht hg0 fg fgn p1 p2 hG fn fd u45 hneg e45 hv
   go_enter func123,ntmps123
   go_wp2_with (first | (go_at_call 120;with_reducible refine up_ (HG.out _ (HT.out.below hB)) hB fun wk hB=>?_) | (go_at_call 183;with_reducible refine up_ (HN.out _ (HT.out.below hB)) hB fun wk hB=>?_) | (go_at_call 184;with_reducible refine up_ (HF1.out _ (HT.out.below hB)) hB fun wk hB=>?_) | (go_at_call 184;with_reducible refine up_ (HF2.out _ (HT.out.below hB)) hB fun wk hB=>?_))
   go_ret2
   first | exact ⟨by rw [HV.out];rfl,hB⟩ | exact ⟨by rw [← HV.out];rfl,hB⟩
 ·rw [if_neg hneg] at hG
  rw [hG] at p1 p2;have HF1:=hj_ (fun w ht=>qka hx fg o_ p1 w ht)
  have HF2:=hj_ (fun w ht=>qka hy fg o_ p2 w ht)
  have e46:(((sI y)[0].toNat:Int) == 45)=false:=by
   rw [beq_eq_false_iff_ne];exact fun h=>hneg (u45.1 h)
  rcases qoe (Rat.divInt x y) with ⟨-,g1,hv⟩ | ⟨-,g1,hv⟩
  all_goals
   have HV:=hj_ hv;generalize Rat.divInt x y=r at *;clear hx hy h0 ht hg0 fg fgn p1 p2 hG fn fd u45 hneg hv HN
   go_enter func123,ntmps123
   go_wp2_with (first | (go_at_call 120;with_reducible refine up_ (HG.out _ (HT.out.below hB)) hB fun wk hB=>?_) | (go_at_call 184;with_reducible refine up_ (HF1.out _ (HT.out.below hB)) hB fun wk hB=>?_) | (go_at_call 184;with_reducible refine up_ (HF2.out _ (HT.out.below hB)) hB fun wk hB=>?_))
   go_ret2
   first | exact ⟨by rw [HV.out];rfl,hB⟩ | exact ⟨by rw [← HV.out];rfl,hB⟩
theorem qke (h0:-9223372036854775808≤x) (h1:x≤9223372036854775807) (w:World) (ht:Tab w) :
  Rt 44 #[.int .i64 x] w (.string (sR (x:Rat))):=by
 have HO:=hj_ (of_fit h0 h1 w ht);rw [sR_int];clear h0 h1 ht
 go_enter func44,ntmps44
 go_wp2_with (go_at_call 77;refine HO.out.mono ?_;rintro e w1 ⟨rfl,hb1⟩);go_ret;exact ⟨rfl,hb1⟩
theorem qjy (hx:Fit x) (hy:Fit y) (h0:y≠0) (w:World) (ht:Tab w) :
  Rt 147 #[.string (sI x),.string (sI y)] w (.tuple #[.string (sR (Rat.divInt x y)),.int .i64 0]):=by
 have HT:=hj_ ht;have hcx:=fun w=>q2k (sI x) w (Nat.le_trans (qod hx) d_)
 have hcy:=fun w=>q2k (sI y) w (Nat.le_trans (qod hy) d_)
 rw [q31 hx] at hcx;rw [q31 hy] at hcy;have HX:=hj_ hcx;have HY:=hj_ hcy;have HR:=hj_ (fun w ht=>qk4 hx hy h0 w ht)
 have g0:=qbx (sI y);have e0:decide ((sI y).data.toList=[48])=decide (y=0):=by rw [decide_eq_decide,qoc];exact qc0
 rw [e0,decide_eq_false h0] at g0;generalize Rat.divInt x y=r at *;clear hcx hcy hx hy h0 ht e0
 go_enter func147,ntmps147
 go_wp2_with fail;obtain ⟨W,hW⟩:=ex_ (w.alloc (.cells #[.string (sI x),.string (sI y)] 131));rw [← hW];have hs:W.heap.size=w.heap.size+1:=by rw [hW];simp
 have c0:W.cell? ⟨w.heap.size,0,none⟩=some (.string (sI x)):=by rw [hW,World.cell?_alloc_new];rfl
 have c1:W.cell? ⟨w.heap.size,1,none⟩=some (.string (sI y)):=by rw [hW,World.cell?_alloc_new];rfl
 have hBW:Below w.heap.size w W:=by rw [hW];exact (Below.refl _ w).alloc lr_ _
 have HS:=hj_ hs;have C0:=hj_ c0;have C1:=hj_ c1;have HBW:=hj_ hBW;clear hs c0 c1 hBW hW
 go_loopw [13] (fun iv wr=>(iv=.int .i64 0∨iv=.int .i64 1∨iv=.int .i64 2)∧Below W.heap.size W wr) (fun iv _=>2-(intOf iv).toNat)
 case atStart=>exact ⟨.inl rfl,br_⟩
 case round =>
  obtain ⟨hiv,hbV⟩:=hrel;have HbV:=hj_ hbV;obtain ⟨hcc,hcf⟩:=bcell hbV;have l0:w.heap.size<W.heap.size:=by rw [HS.out];omega
  have z0:=(hcc _ 0 l0).trans C0.out;have z1:=(hcc _ 1 l0).trans C1.out;have hB:Below w.heap.size w wr:=ht_ HBW.out hbV;clear hcc hcf l0 hbV
  rcases hiv with rfl | rfl | rfl
  ·clear z1
   go_wp2_with (go_at_call 209;refine (HX.out _).mono ?_;rintro e w1 ⟨rfl,hb1⟩)
   go_roundw
   case rel=>exact ⟨.inr (.inl (by go_num)),ht_ HbV.out hb1⟩
   case measure=>first | (simp [intOf];omega) | simp [intOf]
  ·clear z0
   go_wp2_with (go_at_call 209;refine (HY.out _).mono ?_;rintro e w1 ⟨rfl,hb1⟩)
   go_roundw
   case rel=>exact ⟨.inr (.inr (by go_num)),ht_ HbV.out hb1⟩
   case measure=>first | (simp [intOf];omega) | simp [intOf]
  ·clear z0 z1
   go_wp2_with (go_at_call 123;with_reducible refine up_ (HR.out _ (HT.out.below hB)) hB fun wk hB=>?_);go_ret2;exact ⟨rfl,hB⟩
theorem qk1 (h0:-9223372036854775808≤x) (h1:x≤9223372036854775807) (k0:-9223372036854775808≤y) (k1:y≤9223372036854775807) (hy:y≠0) (w:World) (ht:Tab w) :
  Rt 105 #[.int .i64 x,.int .i64 y] w (.tuple #[.string (sR (Rat.divInt x y)),.int .i64 0]):=by
 have hB:=Below.refl w.heap.size w;have HT:=hj_ ht;have HX:=hj_ (fun w ht=>of_fit h0 h1 w ht)
 have HY:=hj_ (fun w ht=>of_fit k0 k1 w ht)
 have HR:=hj_ (fun w ht=>qjy (q8g h0 h1) (q8g k0 k1) hy w ht)
 clear h0 h1 k0 k1 hy ht
 go_enter func105,ntmps105
 go_wp2_with (first | (go_at_call 77;with_reducible refine up_ (HX.out _ (HT.out.below hB)) hB fun wk hB=>?_) | (go_at_call 77;with_reducible refine up_ (HY.out _ (HT.out.below hB)) hB fun wk hB=>?_) | (go_at_call 147;with_reducible refine up_ (HR.out _ (HT.out.below hB)) hB fun wk hB=>?_))
 go_ret2;exact ⟨rfl,hB⟩
structure Kp0 (P:Nat) (w w':World):Prop where
 gr:w.grownBy w' (some P)
 ce:w'.cell? ⟨P,0,none⟩=some (.int .i64 0)
 fr:w'.frozen? ⟨P,0,none⟩=false
theorem Tab.of_block (h:Tab w) (hb:w'.heap[3]? = w.heap[3]?):Tab w':=by
 unfold Tab Lib.TabIs World.var? at *;simp only [qad,Option.bind_some] at *;rw [hb];exact h
theorem Tab.kp (h:Tab w) (hk:Kp0 P w w') (hP:3<P):Tab w' :=
 h.of_block (hk.gr.block _ h.lt (fun e=>by injection e with e;omega))
theorem Kp0.trans {a b c:World} (h:Kp0 P a b) (k:Kp0 P b c):Kp0 P a c:=⟨h.gr.trans k.gr,k.ce,k.fr⟩
theorem qae {row:Option Nat} (h:Below w.heap.size w w'):w.grownBy w' row:=⟨h.os,h.tape,h.output,h.size,fun i hi _=>h.block i hi⟩
theorem qjr (fn P:Nat) (a b z:ByteArray) (he:∀ args w,(callFunc fn args).run prog w=.ok (.enter fn args) w) (w:World) (_:Tab w) (c0:w.cell? ⟨P,0,none⟩=some (.int .i64 0)) (f0:w.frozen? ⟨P,0,none⟩=false) (hP:P<w.heap.size)
  (hf:Rt fn #[.string a,.string b] w (.tuple #[.string z,.int .i64 0])) :
  Calls prog 245 #[.pointer (some ⟨P,0,none⟩),.func (.func fn) #[] #[],.string a,.string b] w fun e w'=>e=.returned (.string z)∧Kp0 P w w':=by
 have HF:=hj_ hf;have HP:=hj_ hP;clear hf
 go_enter func245,ntmps245
 go_wp2_with fail;refine HF.out.mono ?_;rintro e w1 ⟨rfl,hb1⟩;obtain ⟨hcc,hcf⟩:=bcell hb1;have c1:=(hcc P 0 HP.out).trans c0;have f1:=(hcf P 0 HP.out).trans f0;have HB:=hj_ hb1;clear hcc hcf hb1;have c2:(w1.setCell ⟨P,0,none⟩ (.int .i64 0)).cell? ⟨P,0,none⟩=some (.int .i64 0):=by
  exact World.cell?_setCell_same' _ _ _ (by rw [c1];rfl)
 go_wp2;go_ret;exact ⟨rfl,⟨(qae HB.out).trans (qag _ _ _ _),c2,by rw [World.frozen?_setCell];exact f1⟩⟩
structure Ch (P:Nat) (w:World):Prop where
 tab:Tab w
 gP:3<P
 lt:P<w.heap.size
 ce:w.cell? ⟨P,0,none⟩=some (.int .i64 0)
 fr:w.frozen? ⟨P,0,none⟩=false
theorem Ch.kp (h:Ch P w) (k:Kp0 P w w'):Ch P w':=⟨h.tab.kp k h.gP,h.gP,Nat.lt_of_lt_of_le h.lt k.gr.size,k.ce,k.fr⟩
theorem Ch.refl (h:Ch P w):Kp0 P w w:=⟨⟨rfl,rfl,rfl,Nat.le_refl _,fun _ _ _=>rfl⟩,h.ce,h.fr⟩
theorem qjs (P:Nat) (hx:Fit x) (hy:Fit y) (hz:Fit z) (h:x*y=z) (w:World) (hc:Ch P w) :
  Calls prog 245 #[.pointer (some ⟨P,0,none⟩),.func (.func 246) #[] #[],.string (sI x),.string (sI y)] w fun e w'=>e=.returned (.string (sI z))∧Kp0 P w w' :=
 qjr _ P _ _ _ (enters_of func246 k_ rfl) w hc.tab hc.ce hc.fr hc.lt (qe6 hx hy hz h w hc.tab)
theorem qjq (P:Nat) (hx:Fit x) (hy:Fit y) (hz:Fit z) (h:x+y=z) (w:World) (hc:Ch P w) :
  Calls prog 245 #[.pointer (some ⟨P,0,none⟩),.func (.func 179) #[] #[],.string (sI x),.string (sI y)] w fun e w'=>e=.returned (.string (sI z))∧Kp0 P w w' :=
 qjr _ P _ _ _ (enters_of func179 k_ rfl) w hc.tab hc.ce hc.fr hc.lt (q07 hx hy hz h w hc.tab)
theorem qjt (P:Nat) (hx:Fit x) (hy:Fit y) (hz:Fit z) (h:x-y=z) (w:World) (hc:Ch P w) :
  Calls prog 245 #[.pointer (some ⟨P,0,none⟩),.func (.func 180) #[] #[],.string (sI x),.string (sI y)] w fun e w'=>e=.returned (.string (sI z))∧Kp0 P w w' :=
 qjr _ P _ _ _ (enters_of func180 k_ rfl) w hc.tab hc.ce hc.fr hc.lt (qr7 hx hy hz h w hc.tab)
theorem qk8 {r:Int} (P:Nat) (hp:Fit p) (hq:Fit q) (hr:Fit r) (hs:Fit s) (h1:Fit (p*r)) (h2:Fit (q*s)) (w:World) (hc:Ch P w) :
  Calls prog 181 #[.pointer (some ⟨P,0,none⟩),.string (sI p),.string (sI q),.string (sI r),.string (sI s)] w fun e w'=>e=.returned (.tuple #[.string (sI (p*r)),.string (sI (q*s))])∧Kp0 P w w':=by
 have HCh:=hj_ hc;have hK:=hc.refl;have H1:=hj_ (fun w hc=>qjs P hp hr h1 rfl w hc)
 have H2:=hj_ (fun w hc=>qjs P hq hs h2 rfl w hc)
 clear hp hq hr hs h1 h2 hc;generalize p*r=x at *;generalize q*s=y at *
 go_enter func181,ntmps181
 go_wp2_with (first | (go_at_call 245;with_reducible refine (H1.out _ (HCh.out.kp hK)).mono ?_;rintro e wk ⟨rfl,hb⟩;replace hK:=hK.trans hb;clear hb) | (go_at_call 245;with_reducible refine (H2.out _ (HCh.out.kp hK)).mono ?_;rintro e wk ⟨rfl,hb⟩;replace hK:=hK.trans hb;clear hb))
 go_ret2;exact ⟨rfl,hK⟩
theorem qk0 {r:Int} (P:Nat) (hp:Fit p) (hq:Fit q) (hr:Fit r) (hs:Fit s) (h1:Fit (p*s)) (h2:Fit (q*r)) (w:World) (hc:Ch P w) :
  Calls prog 182 #[.pointer (some ⟨P,0,none⟩),.string (sI p),.string (sI q),.string (sI r),.string (sI s)] w fun e w'=>e=.returned (.tuple #[.string (sI (p*s)),.string (sI (q*r))])∧Kp0 P w w':=by
 have HCh:=hj_ hc;have hK:=hc.refl;have H1:=hj_ (fun w hc=>qk8 P hp hq hs hr h1 h2 w hc)
 clear hp hq hr hs h1 h2 hc;generalize p*s=x at *;generalize q*r=y at *
 go_enter func182,ntmps182
 go_wp2_with (go_at_call 181;with_reducible refine (H1.out _ (HCh.out.kp hK)).mono ?_;rintro e wk ⟨rfl,hb⟩;replace hK:=hK.trans hb;clear hb);go_ret2;exact ⟨rfl,hK⟩
theorem qjm {r:Int} (fn P Q:Nat) (hp:Fit p) (hq:Fit q) (hr:Fit r) (hs:Fit s) (h1:Fit (p*s)) (h2:Fit (r*q)) (h3:Fit (q*s)) (w:World) (hc:Ch P w)
  (hf:∀ w,Ch P w→Calls prog 245 #[.pointer (some ⟨P,0,none⟩),.func (.func fn) #[] #[],.string (sI (p*s)),.string (sI (r*q))] w fun e w'=>e=.returned (.string (sI z))∧Kp0 P w w')
  (hQ:w.cell? ⟨Q,0,none⟩=some (.func (.func fn) #[] #[])) (hQl:Q<w.heap.size) (hne:P≠Q) :
  Calls prog 244 #[.pointer (some ⟨P,0,none⟩),.string (sI p),.string (sI q),.string (sI r),.string (sI s),.pointer (some ⟨Q,0,none⟩)] w fun e w'=>e=.returned (.tuple #[.string (sI z),.string (sI (q*s))])∧Kp0 P w w':=by
 have HCh:=hj_ hc;have hK:=hc.refl;have H1:=hj_ (fun w hc=>qjs P hp hs h1 rfl w hc)
 have H2:=hj_ (fun w hc=>qjs P hr hq h2 rfl w hc)
 have H3:=hj_ (fun w hc=>qjs P hq hs h3 rfl w hc)
 have HF:=hj_ hf;have HQ:=hj_ (fun w' (hk:Kp0 P w w')=>(hk.gr.cell_far ⟨Q,0,none⟩ hQl (fun e=>hne (by injection e with e;exact e.symm))).trans hQ)
 clear hp hq hr hs h1 h2 h3 hc hf hQ hQl hne;generalize p*s=x at *;generalize r*q=y at *;generalize q*s=v at *
 go_enter func244,ntmps244
 go_wp2_with fail;refine (H1.out _ (HCh.out.kp hK)).mono ?_;rintro e w1 ⟨rfl,hb⟩;replace hK:=hK.trans hb;clear hb;go_wp2_with fail;refine (H2.out _ (HCh.out.kp hK)).mono ?_;rintro e w2 ⟨rfl,hb⟩;replace hK:=hK.trans hb;have c1:=HQ.out _ hK;clear hb;go_wp2_with fail;refine (HF.out _ (HCh.out.kp hK)).mono ?_;rintro e w3 ⟨rfl,hb⟩;replace hK:=hK.trans hb;clear hb c1;go_wp2_with fail;refine (H3.out _ (HCh.out.kp hK)).mono ?_;rintro e w4 ⟨rfl,hb⟩;replace hK:=hK.trans hb;clear hb;go_wp2;go_ret2;exact ⟨rfl,hK⟩
theorem qjn (n:Nat) (w:World) :
  Calls prog 178 #[.func (.func n) #[] #[]] w fun e w'=>e=.returned (.func (.func 244) #[] #[.pointer (some ⟨w.heap.size,0,none⟩)])∧w' = w.alloc (.cells #[.func (.func n) #[] #[]] 180):=by
 go_enter func178,ntmps178
 go_wp2;go_ret;exact ⟨rfl,rfl⟩
def en (k:Int) (v:Value) (b:Nat):MapEntry:={ key:=.int .u8 k,val:=v,born:=b }
def clo (Q:Nat):Value:=.func (.func 244) #[] #[.pointer (some ⟨Q,0,none⟩)]
theorem find1 (v1:Value):Instr.findNow (.int .u8) (.int .u8 45) (#[en 43 v1 0]:Array MapEntry).toList 0=some none:=by simp [Instr.findNow,Instr.sameNow,en]
theorem find2 (v1 v2:Value):Instr.findNow (.int .u8) (.int .u8 42) (#[en 43 v1 0,en 45 v2 1]:Array MapEntry).toList 0=some none:=by simp [Instr.findNow,Instr.sameNow,en]
theorem find3 (v1 v2 v3:Value):Instr.findNow (.int .u8) (.int .u8 47) (#[en 43 v1 0,en 45 v2 1,en 42 v3 2]:Array MapEntry).toList 0=some none:=by simp [Instr.findNow,Instr.sameNow,en]
def opsM (Q1 Q2:Nat):Array MapEntry:=#[en 43 (clo Q1) 0,en 45 (clo Q2) 1,en 42 (.func (.func 181) #[] #[]) 2,en 47 (.func (.func 182) #[] #[]) 3]
def RetO (w:World) (e:Ending) (w':World):Prop:=∃ M Q1 Q2,e=.returned (.map (some M))∧w'.heap[M]? = some (.map (opsM Q1 Q2) 4)∧w.heap.size≤Q1∧Q1<w'.heap.size∧w.heap.size≤Q2∧Q2<w'.heap.size ∧
 w'.cell? ⟨Q1,0,none⟩=some (.func (.func 179) #[] #[])∧w'.cell? ⟨Q2,0,none⟩=some (.func (.func 180) #[] #[])∧Below w.heap.size w w'
theorem qax (w:World) (o:Obj):(w.alloc o).heap[w.heap.size]? = some o:=by
 show (w.heap.push o)[w.heap.size]? = _
 rw [Array.getElem?_push,if_pos rfl]
theorem qjz (w:World):Calls prog 122 #[] w (RetO w):=by
 have hmm:∀ w,(Instr.makeMap 188 none).run prog w=.ok (.map (some w.heap.size)) (w.alloc (.map #[] 0)):=fun w=>run_makeMap _ w
 obtain ⟨W1,hW1⟩:=ex_ (w.alloc (.map #[] 0));have h1:W1.heap[w.heap.size]? = some (.map #[] 0):=by rw [hW1];exact qax _ _
 have s1:W1.heap.size=w.heap.size+1:=by rw [hW1];simp
 have b1:Below w.heap.size w W1:=by rw [hW1];exact (Below.refl _ w).alloc lr_ _
 obtain ⟨W2,hW2⟩:=ex_ (W1.alloc (.cells #[.func (.func 179) #[] #[]] 180));have h2:W2.heap[w.heap.size]? = some (.map #[] 0):=by rw [hW2,Below.heap_alloc _ _ _ o_];exact h1
 have s2:W2.heap.size=w.heap.size+2:=by rw [hW2];simp;omega
 have c2:W2.cell? ⟨W1.heap.size,0,none⟩=some (.func (.func 179) #[] #[]):=by rw [hW2,World.cell?_alloc_new];rfl
 have b2:Below w.heap.size w W2:=by rw [hW2];exact b1.alloc o_ _
 have H1:=hj_ hW1;have H2:=hj_ hW2;have HH:=hj_ h2;have HS1:=hj_ s1;have HS2:=hj_ s2;have HC2:=hj_ c2;have HB2:=hj_ b2;clear hW1 hW2 h1 h2 s1 s2 c2 b1 b2
 go_enter func122,ntmps122
 go_wp2_with fail;rw [← H1.out];refine (qjn _ W1).mono ?_;rintro e w1 ⟨rfl,rfl⟩;rw [← H2.out];have tok1:True:=trivial;go_wp2_with (have _t:=tok1;refine q001 _ rfl _ _ _ 188 rfl 5 187 (.int .u8) underlying188 underlying5 w.heap.size 0 #[] _ _ rfl rfl rfl rfl HH.out rfl ?_;intro W3 h3 g3;clear tok1 _t);obtain ⟨W4,hW4⟩:=ex_ (W3.alloc (.cells #[.func (.func 180) #[] #[]] 180));have z3:=g3.size;rw [HS2.out] at z3;have h4:W4.heap[w.heap.size]? = some (.map #[en 43 (clo W1.heap.size) 0] 1):=(show W4.heap[w.heap.size]? = W3.heap[w.heap.size]? by rw [hW4,Below.heap_alloc _ _ _ o_]).trans h3
 have c4:W4.cell? ⟨W3.heap.size,0,none⟩=some (.func (.func 180) #[] #[]):=by rw [hW4,World.cell?_alloc_new];rfl
 have s4:W4.heap.size=W3.heap.size+1:=by rw [hW4];simp
 have b4:Below w.heap.size w W4:=by rw [hW4];exact (HB2.out.grown g3 (by rw [HS2.out];omega) (fun k e=>by injection e with e;omega)).alloc o_ _
 have t1:=HS1.out;have t2:=HS2.out;have d4:W4.cell? ⟨W1.heap.size,0,none⟩=some (.func (.func 179) #[] #[]):=by
  have l1:W1.heap.size<W3.heap.size:=o_
  have l2:W1.heap.size<W2.heap.size:=o_
  have l3:(some W1.heap.size:Option Nat)≠some w.heap.size:=fun e=>by injection e with e;omega
  rw [hW4,World.cell?_alloc_lt _ _ _ l1,g3.cell_far ⟨W1.heap.size,0,none⟩ l2 l3];exact HC2.out
 have H4:=hj_ hW4;have HH4:=hj_ h4;have HC4:=hj_ c4;have HD4:=hj_ d4;have HS4:=hj_ s4;have HB4:=hj_ b4;have HZ3:=hj_ z3;clear hW4 h4 c4 d4 s4 b4 z3 h3 g3 t1 t2;go_wp2_with fail;refine (qjn _ W3).mono ?_;rintro e w1 ⟨rfl,rfl⟩;rw [← H4.out];have tok2:True:=trivial;go_wp2_with (first | (have _t:=tok2;refine q001 _ rfl _ _ _ 188 rfl 5 187 (.int .u8) underlying188 underlying5 w.heap.size 1 #[en 43 (clo W1.heap.size) 0] _ _ rfl rfl rfl rfl HH4.out (find1 _) ?_;intro W5 h g;have HH5:=hj_ (show W5.heap[w.heap.size]? = some (.map #[en 43 (clo W1.heap.size) 0,en 45 (clo W3.heap.size) 1] 2) from h);have HG5:=hj_ g;clear h g tok2 _t;have tok3:True:=trivial) | (have _t:=tok3;refine q001 _ rfl _ _ _ 188 rfl 5 187 (.int .u8) underlying188 underlying5 w.heap.size 2 #[en 43 (clo W1.heap.size) 0,en 45 (clo W3.heap.size) 1] _ _ rfl rfl rfl rfl HH5.out (find2 _ _) ?_;intro W6 h g;have HH6:=hj_ (show W6.heap[w.heap.size]? = some (.map #[en 43 (clo W1.heap.size) 0,en 45 (clo W3.heap.size) 1,en 42 (.func (.func 181) #[] #[]) 2] 3) from h);have HG6:=hj_ (HG5.out.trans g);clear h g tok3 _t;have tok4:True:=trivial) | (have _t:=tok4;refine q001 _ rfl _ _ _ 188 rfl 5 187 (.int .u8) underlying188 underlying5 w.heap.size 3 #[en 43 (clo W1.heap.size) 0,en 45 (clo W3.heap.size) 1,en 42 (.func (.func 181) #[] #[]) 2] _ _ rfl rfl rfl rfl HH6.out (find3 _ _ _) ?_;intro W7 h g;have HH7:=hj_ (show W7.heap[w.heap.size]? = some (.map (opsM W1.heap.size W3.heap.size) 4) from h);have HG7:=hj_ (HG6.out.trans g);clear h g tok4 _t))
 go_ret;have z:=HG7.out.size;have t1:=HS1.out;have t2:=HS2.out;have t3:=HZ3.out;have t4:=HS4.out;refine ⟨w.heap.size,W1.heap.size,W3.heap.size,rfl,HH7.out,o_,o_,o_,o_,?_,?_,HB4.out.grown HG7.out o_ (fun k e=>by injection e with e;omega)⟩
 ·exact (HG7.out.cell_far ⟨W1.heap.size,0,none⟩ (by show W1.heap.size<_;omega) (fun e=>by injection e with e;have:W1.heap.size=w.heap.size:=e;omega)).trans HD4.out
 ·exact (HG7.out.cell_far ⟨W3.heap.size,0,none⟩ (by show W3.heap.size<_;omega) (fun e=>by injection e with e;have:W3.heap.size=w.heap.size:=e;omega)).trans HC4.out
theorem FitR.sz (h:FitR r):SzR 4096 r:=by
 obtain ⟨h1,h2⟩:=h;unfold Fit at h1 h2;rw [Int.natAbs_natCast] at h2;exact ⟨h1,h2⟩
theorem FitR.size (h:FitR r):(sR r).size≤10000:=Nat.le_trans h.sz.len d_
theorem q35 (h:FitR r):chkR (sR r).data.toList=0:=by rw [qog];exact q33 h
theorem qjj (A:Option Addr) (n c:Nat) (l:List Rat) (w:World) (ht:Tab w) (hl:Ss w A n (l.map sR)) (hn:n≤1000) (hf:∀ r ∈ l,FitR r) :
  Rt 121 #[.slice A n c] w (.int .i64 0):=by
 obtain ⟨rfl,_⟩:=id hl;have HT:=hj_ ht;have HF:=hj_ hf;have hn':l.length≤1000:=by rw [List.length_map] at hn;exact hn
 rw [List.length_map];clear hf ht hn
 go_enter func121,ntmps121
 go_wp2
 go_loopw [8] (fun iv wr=>∃ k:Nat,k≤l.length∧iv=.int .i64 k∧Below w.heap.size w wr) (fun iv _=>l.length-(intOf iv).toNat)
 case atStart=>exact ⟨0,Nat.zero_le _,rfl,br_⟩
 case round =>
  obtain ⟨k,hk,rfl,hB⟩:=hrel
  by_cases hlt:k<l.length
  ·obtain ⟨b,o,rfl,_,hc⟩:=(hl.below hB).at1 (k:=k) (by rw [List.length_map];exact hlt)
   rw [List.getElem_map] at hc;have hr:=HF.out l[k] (List.getElem_mem hlt);have hC:=fun w ht=>qji (sR l[k]) w (Nat.le_trans hr.size d_) ht
   rw [q35 hr] at hC;generalize l[k]=r at *;have HC:=hj_ hC;clear hC hr;go_wp2_with (go_at_call 42;with_reducible refine up_ (HC.out _ (HT.out.below hB)) hB fun wk hB=>?_)
   go_roundw
   case rel=>exact ⟨k+1,o_,by go_num,hB⟩
   case measure=>simp [intOf];omega
  ·obtain rfl:k=l.length:=by omega
   go_wp2;go_ret;exact ⟨rfl,hB⟩
theorem qk3 (w:World) (hs:(sR r).size≤9223372036854775807) :
  Rt 72 #[.string (sR r)] w (.tuple #[.string (sI r.num),.string (sI (r.den:Int)),.bool (decide (r.den≠1))]):=by
 have:=qk2 (sR r) w hs
 rw [show topB (sR r)=sI r.num from qsp r,show botB (sR r)=sI (r.den:Int) from q1j r,show qpv (sR r).data.toList=decide (r.den≠1) from (qkq r).2.2] at this
 exact this
theorem SzR.fits (ha:SzR k a) (hb:SzR m b) (h:k+m+1≤4096) :
  FitR a∧FitR b∧Fit a.num∧Fit (a.den:Int)∧Fit b.num∧Fit (b.den:Int)∧Fit (a.num*b.den)∧Fit (b.num*a.den)∧Fit ((a.den:Int)*b.den)∧Fit (a.num*b.num) ∧
  Fit (a.num*b.den+b.num*a.den)∧Fit (a.num*b.den-b.num*a.den)∧Fit ((a.den:Int)*b.num):=by
 have fa:=ha.fit o_
 have fb:=hb.fit o_
 obtain ⟨q1,q2,q3,q4,q5,q6,q7⟩:=SzR.prods ha hb;exact ⟨fa,fb,fa.1,fa.2,fb.1,fb.2,fit_lt q1 o_,fit_lt q2 o_,fit_lt q3 o_,fit_lt q4 o_,fit_lt q5 o_,fit_lt q6 o_,fit_lt q7 o_⟩
theorem q2i (wk:World) (ht:Tab wk) {W w2:World} (hW:W=wk.alloc (.cells #[.int .i64 0] 184)) (hb:Below W.heap.size W w2):Ch wk.heap.size w2:=by
 have hs:W.heap.size=wk.heap.size+1:=by rw [hW];simp
 have hBW:Below wk.heap.size wk W:=by rw [hW];exact (br_).alloc lr_ _
 obtain ⟨hcc,hcf⟩:=bcell hb;refine ⟨ht.below (ht_ hBW hb),ht.lt,by have:=hb.size;omega,?_,?_⟩
 ·rw [hcc _ _ o_,hW,World.cell?_alloc_new];rfl
 ·rw [hcf _ _ o_,hW,World.frozen?_alloc_new]
theorem qdb (w:World) (M Q1 Q2:Nat) (h:w.heap[M]? = some (.map (opsM Q1 Q2) 4)) :
  (Instr.lookup 188 (.map (some M)) (.int .u8 43) false).run prog w=.ok (.func (.func 244) #[] #[.pointer (some ⟨Q1,0,none⟩)]) w ∧
  (Instr.lookup 188 (.map (some M)) (.int .u8 45) false).run prog w=.ok (.func (.func 244) #[] #[.pointer (some ⟨Q2,0,none⟩)]) w ∧
  (Instr.lookup 188 (.map (some M)) (.int .u8 42) false).run prog w=.ok (.func (.func 181) #[] #[]) w ∧
  (Instr.lookup 188 (.map (some M)) (.int .u8 47) false).run prog w=.ok (.func (.func 182) #[] #[]) w:=by
 have T:=fun key val i hi hf=>qnw (P:=prog) (w:=w) 188 5 187 (.int .u8) M 4 i (opsM Q1 Q2) key val underlying188 underlying5 hi h hf
 refine ⟨T _ _ 0 rfl ?_,T _ _ 1 rfl ?_,T _ _ 2 rfl ?_,T _ _ 3 rfl ?_⟩ <;> simp [opsM,Instr.findNow,Instr.sameNow,en,clo]
theorem qjg (ha:SzR k a) (hb:SzR m b) (w:World) (ht:Tab w) (h:k+m+1≤4096) :
  Rt 76 #[.int .u8 43,.string (sR a),.string (sR b)] w (.tuple #[.string (sR (a+b)),.int .i64 0]):=by
 have HT:=hj_ ht;obtain ⟨fa,fb,f1,f2,f3,f4,f5,f6,f7,f8,f9,f10,f11⟩:=SzR.fits ha hb h;obtain ⟨W0,hW0⟩:=ex_ (w.alloc (.cells #[.string (sR a),.string (sR b)] 38));have hB0:Below w.heap.size w W0:=by rw [hW0];exact (Below.refl _ w).alloc lr_ _
 have hS:Ss W0 (some ⟨w.heap.size,0,none⟩) 2 ([a,b].map sR):=by rw [hW0];exact Ss.fresh w [sR a,sR b] 38 #[.string (sR a),.string (sR b)] rfl
 have hK:=qjj (some ⟨w.heap.size,0,none⟩) 2 2 [a,b] W0 (ht.below hB0) hS o_ (by intro r hr;simp at hr;rcases hr with rfl | rfl <;> assumption)
 have HK:=hj_ hK;have H0:=hj_ hW0;have HB0:=hj_ hB0;have HPa:=hj_ (fun w=>qk3 (r:=a) w (Nat.le_trans fa.size d_))
 have HPb:=hj_ (fun w=>qk3 (r:=b) w (Nat.le_trans fb.size d_))
 have HX:=hj_ (fun (P Q1 Q2:Nat) w (hc:Ch P w) (h1:w.cell? ⟨Q1,0,none⟩=some (.func (.func 179) #[] #[])) (l1:Q1<w.heap.size) (h2:w.cell? ⟨Q2,0,none⟩=some (.func (.func 180) #[] #[])) (l2:Q2<w.heap.size) (n1:P≠Q1) (n2:P≠Q2) =>
  qjm 179 P Q1 f1 f2 f3 f4 f5 f6 f7 w hc (fun w hc=>qjq P f5 f6 f9 rfl w hc) h1 l1 n1)
 have HR:=hj_ (fun w ht=>qk4 f9 f7 (q55 a b) w ht)
 rw [← q08] at HR;generalize a.num*(b.den:Int)+b.num*(a.den:Int)=u at *;generalize (a.den:Int)*(b.den:Int)=v at *;clear ha hb h fa fb f1 f2 f3 f4 f5 f6 f7 f8 f9 f10 f11 hW0 hB0 hS hK ht
 go_enter func76,ntmps76
 go_wp2_with fail;rw [← H0.out];refine HK.out.mono ?_;rintro e wk ⟨rfl,hb⟩;have hB:=ht_ HB0.out hb;clear hb;go_wp2_with (first | (go_at_call 72;with_reducible refine up_ (HPa.out _) hB fun wk hB=>?_) | (go_at_call 72;with_reducible refine up_ (HPb.out _) hB fun wk hB=>?_))
 obtain ⟨W,hW⟩:=ex_ (wk.alloc (.cells #[.int .i64 0] 184));rw [← hW];refine (qjz W).mono ?_;rintro e w2 ⟨M,Q1,Q2,rfl,hM,l1,l2,l3,l4,cq1,cq2,hb2⟩;have hCh:=q2i wk (HT.out.below hB) hW hb2;have hsW:W.heap.size=wk.heap.size+1:=by rw [hW];simp
 obtain ⟨k1,k2,k3,k4⟩:=qdb w2 M Q1 Q2 hM;have hC:=HX.out wk.heap.size Q1 Q2 w2 hCh cq1 l2 cq2 l4 o_ o_
 have HC:=hj_ hC;have HCh:=hj_ hCh;have hBW:Below w.heap.size w w2:=(show Below w.heap.size w W by rw [hW];exact hB.alloc hB.size _).trans (hb2.mono (oh_ hB.size))
 have HBW:=hj_ hBW;have HSz:=hj_ hB.size;clear hC hCh hsW cq1 cq2 l1 l2 l3 l4 hM hb2 hW hBW hB k2 k3 k4;go_wp2_with fail;refine HC.out.mono ?_;rintro e w3 ⟨rfl,hk3⟩;have hCh3:=HCh.out.kp hk3;have e3:=hCh3.ce;have HT3:=hj_ hCh3.tab;have HB3:=hj_ (HBW.out.grown hk3.gr (oh_ HBW.out.size) (fun k e=>by injection e with e;have:=HSz.out;omega))
 clear hk3 hCh3;go_wp2_with fail;refine (HR.out _ HT3.out).mono ?_;rintro e w4 ⟨rfl,hb4⟩;have hBe:=ht_ HB3.out hb4;clear hb4;go_wp2;go_ret2;exact ⟨rfl,hBe⟩
theorem qk7 (ha:SzR k a) (hb:SzR m b) (w:World) (ht:Tab w) (h:k+m+1≤4096) :
  Rt 76 #[.int .u8 45,.string (sR a),.string (sR b)] w (.tuple #[.string (sR (a-b)),.int .i64 0]):=by
 have HT:=hj_ ht;obtain ⟨fa,fb,f1,f2,f3,f4,f5,f6,f7,f8,f9,f10,f11⟩:=SzR.fits ha hb h;obtain ⟨W0,hW0⟩:=ex_ (w.alloc (.cells #[.string (sR a),.string (sR b)] 38));have hB0:Below w.heap.size w W0:=by rw [hW0];exact (Below.refl _ w).alloc lr_ _
 have hS:Ss W0 (some ⟨w.heap.size,0,none⟩) 2 ([a,b].map sR):=by rw [hW0];exact Ss.fresh w [sR a,sR b] 38 #[.string (sR a),.string (sR b)] rfl
 have hK:=qjj (some ⟨w.heap.size,0,none⟩) 2 2 [a,b] W0 (ht.below hB0) hS o_ (by intro r hr;simp at hr;rcases hr with rfl | rfl <;> assumption)
 have HK:=hj_ hK;have H0:=hj_ hW0;have HB0:=hj_ hB0;have HPa:=hj_ (fun w=>qk3 (r:=a) w (Nat.le_trans fa.size d_))
 have HPb:=hj_ (fun w=>qk3 (r:=b) w (Nat.le_trans fb.size d_))
 have HX:=hj_ (fun (P Q1 Q2:Nat) w (hc:Ch P w) (h1:w.cell? ⟨Q1,0,none⟩=some (.func (.func 179) #[] #[])) (l1:Q1<w.heap.size) (h2:w.cell? ⟨Q2,0,none⟩=some (.func (.func 180) #[] #[])) (l2:Q2<w.heap.size) (n1:P≠Q1) (n2:P≠Q2) =>
  qjm 180 P Q2 f1 f2 f3 f4 f5 f6 f7 w hc (fun w hc=>qjt P f5 f6 f10 rfl w hc) h2 l2 n2)
 have HR:=hj_ (fun w ht=>qk4 f10 f7 (q55 a b) w ht)
 rw [← qr9] at HR;generalize a.num*(b.den:Int)-b.num*(a.den:Int)=u at *;generalize (a.den:Int)*(b.den:Int)=v at *;clear ha hb h fa fb f1 f2 f3 f4 f5 f6 f7 f8 f9 f10 f11 hW0 hB0 hS hK ht
 go_enter func76,ntmps76
 go_wp2_with fail;rw [← H0.out];refine HK.out.mono ?_;rintro e wk ⟨rfl,hb⟩;have hB:=ht_ HB0.out hb;clear hb;go_wp2_with (first | (go_at_call 72;with_reducible refine up_ (HPa.out _) hB fun wk hB=>?_) | (go_at_call 72;with_reducible refine up_ (HPb.out _) hB fun wk hB=>?_))
 obtain ⟨W,hW⟩:=ex_ (wk.alloc (.cells #[.int .i64 0] 184));rw [← hW];refine (qjz W).mono ?_;rintro e w2 ⟨M,Q1,Q2,rfl,hM,l1,l2,l3,l4,cq1,cq2,hb2⟩;have hCh:=q2i wk (HT.out.below hB) hW hb2;have hsW:W.heap.size=wk.heap.size+1:=by rw [hW];simp
 obtain ⟨k1,k2,k3,k4⟩:=qdb w2 M Q1 Q2 hM;have hC:=HX.out wk.heap.size Q1 Q2 w2 hCh cq1 l2 cq2 l4 o_ o_
 have HC:=hj_ hC;have HCh:=hj_ hCh;have hBW:Below w.heap.size w w2:=(show Below w.heap.size w W by rw [hW];exact hB.alloc hB.size _).trans (hb2.mono (oh_ hB.size))
 have HBW:=hj_ hBW;have HSz:=hj_ hB.size;clear hC hCh hsW cq1 cq2 l1 l2 l3 l4 hM hb2 hW hBW hB k1 k3 k4;go_wp2_with fail;refine HC.out.mono ?_;rintro e w3 ⟨rfl,hk3⟩;have hCh3:=HCh.out.kp hk3;have e3:=hCh3.ce;have HT3:=hj_ hCh3.tab;have HB3:=hj_ (HBW.out.grown hk3.gr (oh_ HBW.out.size) (fun k e=>by injection e with e;have:=HSz.out;omega))
 clear hk3 hCh3;go_wp2_with fail;refine (HR.out _ HT3.out).mono ?_;rintro e w4 ⟨rfl,hb4⟩;have hBe:=ht_ HB3.out hb4;clear hb4;go_wp2;go_ret2;exact ⟨rfl,hBe⟩
theorem qjx (ha:SzR k a) (hb:SzR m b) (w:World) (ht:Tab w) (h:k+m+1≤4096) :
  Rt 76 #[.int .u8 42,.string (sR a),.string (sR b)] w (.tuple #[.string (sR (a*b)),.int .i64 0]):=by
 have HT:=hj_ ht;obtain ⟨fa,fb,f1,f2,f3,f4,f5,f6,f7,f8,f9,f10,f11⟩:=SzR.fits ha hb h;obtain ⟨W0,hW0⟩:=ex_ (w.alloc (.cells #[.string (sR a),.string (sR b)] 38));have hB0:Below w.heap.size w W0:=by rw [hW0];exact (Below.refl _ w).alloc lr_ _
 have hS:Ss W0 (some ⟨w.heap.size,0,none⟩) 2 ([a,b].map sR):=by rw [hW0];exact Ss.fresh w [sR a,sR b] 38 #[.string (sR a),.string (sR b)] rfl
 have hK:=qjj (some ⟨w.heap.size,0,none⟩) 2 2 [a,b] W0 (ht.below hB0) hS o_ (by intro r hr;simp at hr;rcases hr with rfl | rfl <;> assumption)
 have HK:=hj_ hK;have H0:=hj_ hW0;have HB0:=hj_ hB0;have HPa:=hj_ (fun w=>qk3 (r:=a) w (Nat.le_trans fa.size d_))
 have HPb:=hj_ (fun w=>qk3 (r:=b) w (Nat.le_trans fb.size d_))
 have HX:=hj_ (fun (P Q1 Q2:Nat) w (hc:Ch P w) (h1:w.cell? ⟨Q1,0,none⟩=some (.func (.func 179) #[] #[])) (l1:Q1<w.heap.size) (h2:w.cell? ⟨Q2,0,none⟩=some (.func (.func 180) #[] #[])) (l2:Q2<w.heap.size) (n1:P≠Q1) (n2:P≠Q2) =>
  qk8 P f1 f2 f3 f4 f8 f7 w hc)
 have HR:=hj_ (fun w ht=>qk4 f8 f7 (q55 a b) w ht)
 rw [← qe8] at HR;generalize a.num*b.num=u at *;generalize (a.den:Int)*(b.den:Int)=v at *;clear ha hb h fa fb f1 f2 f3 f4 f5 f6 f7 f8 f9 f10 f11 hW0 hB0 hS hK ht
 go_enter func76,ntmps76
 go_wp2_with fail;rw [← H0.out];refine HK.out.mono ?_;rintro e wk ⟨rfl,hb⟩;have hB:=ht_ HB0.out hb;clear hb;go_wp2_with (first | (go_at_call 72;with_reducible refine up_ (HPa.out _) hB fun wk hB=>?_) | (go_at_call 72;with_reducible refine up_ (HPb.out _) hB fun wk hB=>?_))
 obtain ⟨W,hW⟩:=ex_ (wk.alloc (.cells #[.int .i64 0] 184));rw [← hW];refine (qjz W).mono ?_;rintro e w2 ⟨M,Q1,Q2,rfl,hM,l1,l2,l3,l4,cq1,cq2,hb2⟩;have hCh:=q2i wk (HT.out.below hB) hW hb2;have hsW:W.heap.size=wk.heap.size+1:=by rw [hW];simp
 obtain ⟨k1,k2,k3,k4⟩:=qdb w2 M Q1 Q2 hM;have hC:=HX.out wk.heap.size Q1 Q2 w2 hCh cq1 l2 cq2 l4 o_ o_
 have HC:=hj_ hC;have HCh:=hj_ hCh;have hBW:Below w.heap.size w w2:=(show Below w.heap.size w W by rw [hW];exact hB.alloc hB.size _).trans (hb2.mono (oh_ hB.size))
 have HBW:=hj_ hBW;have HSz:=hj_ hB.size;clear hC hCh hsW cq1 cq2 l1 l2 l3 l4 hM hb2 hW hBW hB k1 k2 k4;go_wp2_with fail;refine HC.out.mono ?_;rintro e w3 ⟨rfl,hk3⟩;have hCh3:=HCh.out.kp hk3;have e3:=hCh3.ce;have HT3:=hj_ hCh3.tab;have HB3:=hj_ (HBW.out.grown hk3.gr (oh_ HBW.out.size) (fun k e=>by injection e with e;have:=HSz.out;omega))
 clear hk3 hCh3;go_wp2_with fail;refine (HR.out _ HT3.out).mono ?_;rintro e w4 ⟨rfl,hb4⟩;have hBe:=ht_ HB3.out hb4;clear hb4;go_wp2;go_ret2;exact ⟨rfl,hBe⟩
theorem qjp (ha:SzR k a) (hb:SzR m b) (h0:b≠0) (w:World) (ht:Tab w) (h:k+m+1≤4096) :
  Rt 76 #[.int .u8 47,.string (sR a),.string (sR b)] w (.tuple #[.string (sR (a / b)),.int .i64 0]):=by
 have HT:=hj_ ht;obtain ⟨fa,fb,f1,f2,f3,f4,f5,f6,f7,f8,f9,f10,f11⟩:=SzR.fits ha hb h;obtain ⟨W0,hW0⟩:=ex_ (w.alloc (.cells #[.string (sR a),.string (sR b)] 38));have hB0:Below w.heap.size w W0:=by rw [hW0];exact (Below.refl _ w).alloc lr_ _
 have hS:Ss W0 (some ⟨w.heap.size,0,none⟩) 2 ([a,b].map sR):=by rw [hW0];exact Ss.fresh w [sR a,sR b] 38 #[.string (sR a),.string (sR b)] rfl
 have hK:=qjj (some ⟨w.heap.size,0,none⟩) 2 2 [a,b] W0 (ht.below hB0) hS o_ (by intro r hr;simp at hr;rcases hr with rfl | rfl <;> assumption)
 have HK:=hj_ hK;have H0:=hj_ hW0;have HB0:=hj_ hB0;have HPa:=hj_ (fun w=>qk3 (r:=a) w (Nat.le_trans fa.size d_))
 have HPb:=hj_ (fun w=>qk3 (r:=b) w (Nat.le_trans fb.size d_))
 have g0:((sI b.num).toList == [48])=false:=by
  have e0:decide ((sI b.num).data.toList=[48])=decide (b.num=0):=by rw [decide_eq_decide,qoc];exact qc0
  rw [qbx,e0,decide_eq_false (num_ne h0)]
 have HX:=hj_ (fun (P Q1 Q2:Nat) w (hc:Ch P w) (h1:w.cell? ⟨Q1,0,none⟩=some (.func (.func 179) #[] #[])) (l1:Q1<w.heap.size) (h2:w.cell? ⟨Q2,0,none⟩=some (.func (.func 180) #[] #[])) (l2:Q2<w.heap.size) (n1:P≠Q1) (n2:P≠Q2) =>
  qk0 P f1 f2 f3 f4 f5 f11 w hc)
 have HR:=hj_ (fun w ht=>qk4 f5 f11 (Int.mul_ne_zero (oh_ a.den_pos) (num_ne h0)) w ht)
 rw [← q5q] at HR;generalize a.num*(b.den:Int)=u at *;generalize (a.den:Int)*b.num=v at *;clear ha hb h fa fb f1 f2 f3 f4 f5 f6 f7 f8 f9 f10 f11 hW0 hB0 hS hK ht h0
 go_enter func76,ntmps76
 go_wp2_with fail;rw [← H0.out];refine HK.out.mono ?_;rintro e wk ⟨rfl,hb⟩;have hB:=ht_ HB0.out hb;clear hb;go_wp2_with (first | (go_at_call 72;with_reducible refine up_ (HPa.out _) hB fun wk hB=>?_) | (go_at_call 72;with_reducible refine up_ (HPb.out _) hB fun wk hB=>?_))
 obtain ⟨W,hW⟩:=ex_ (wk.alloc (.cells #[.int .i64 0] 184));rw [← hW];refine (qjz W).mono ?_;rintro e w2 ⟨M,Q1,Q2,rfl,hM,l1,l2,l3,l4,cq1,cq2,hb2⟩;have hCh:=q2i wk (HT.out.below hB) hW hb2;have hsW:W.heap.size=wk.heap.size+1:=by rw [hW];simp
 obtain ⟨k1,k2,k3,k4⟩:=qdb w2 M Q1 Q2 hM;have hC:=HX.out wk.heap.size Q1 Q2 w2 hCh cq1 l2 cq2 l4 o_ o_
 have HC:=hj_ hC;have HCh:=hj_ hCh;have hBW:Below w.heap.size w w2:=(show Below w.heap.size w W by rw [hW];exact hB.alloc hB.size _).trans (hb2.mono (oh_ hB.size))
 have HBW:=hj_ hBW;have HSz:=hj_ hB.size;clear hC hCh hsW cq1 cq2 l1 l2 l3 l4 hM hb2 hW hBW hB k1 k2 k3;go_wp2_with fail;refine HC.out.mono ?_;rintro e w3 ⟨rfl,hk3⟩;have hCh3:=HCh.out.kp hk3;have e3:=hCh3.ce;have HT3:=hj_ hCh3.tab;have HB3:=hj_ (HBW.out.grown hk3.gr (oh_ HBW.out.size) (fun k e=>by injection e with e;have:=HSz.out;omega))
 clear hk3 hCh3;go_wp2_with fail;refine (HR.out _ HT3.out).mono ?_;rintro e w4 ⟨rfl,hb4⟩;have hBe:=ht_ HB3.out hb4;clear hb4;go_wp2;go_ret2;exact ⟨rfl,hBe⟩
theorem qjc (ha:SzR k a) (hb:SzR m b) (w:World) (ht:Tab w) (h:k+m+1≤4096) :
  Rt 61 #[.string (sR a),.string (sR b)] w (.tuple #[.string (sR (a+b)),.int .i64 0]):=by
 have HC:=hj_ (qjg ha hb w ht h);generalize a+b=r at *;clear ha hb ht h
 go_enter func61,ntmps61
 go_wp2_with (go_at_call 76;refine HC.out.mono ?_;rintro e w1 ⟨rfl,hb1⟩);go_ret2;exact ⟨rfl,hb1⟩
theorem qjf (ha:SzR k a) (hb:SzR m b) (w:World) (ht:Tab w) (h:k+m+1≤4096) :
  Rt 329 #[.string (sR a),.string (sR b)] w (.tuple #[.string (sR (a-b)),.int .i64 0]):=by
 have HC:=hj_ (qk7 ha hb w ht h);generalize a-b=r at *;clear ha hb ht h
 go_enter func329,ntmps329
 go_wp2_with (go_at_call 76;refine HC.out.mono ?_;rintro e w1 ⟨rfl,hb1⟩);go_ret2;exact ⟨rfl,hb1⟩
theorem qje (ha:SzR k a) (hb:SzR m b) (w:World) (ht:Tab w) (h:k+m+1≤4096) :
  Rt 106 #[.string (sR a),.string (sR b)] w (.tuple #[.string (sR (a*b)),.int .i64 0]):=by
 have HC:=hj_ (qjx ha hb w ht h);generalize a*b=r at *;clear ha hb ht h
 go_enter func106,ntmps106
 go_wp2_with (go_at_call 76;refine HC.out.mono ?_;rintro e w1 ⟨rfl,hb1⟩);go_ret2;exact ⟨rfl,hb1⟩
theorem qjd (ha:SzR k a) (hb:SzR m b) (h0:b≠0) (w:World) (ht:Tab w) (h:k+m+1≤4096) :
  Rt 43 #[.string (sR a),.string (sR b)] w (.tuple #[.string (sR (a / b)),.int .i64 0]):=by
 have HC:=hj_ (qjp ha hb h0 w ht h);generalize a / b=r at *;clear ha hb ht h h0
 go_enter func43,ntmps43
 go_wp2_with (go_at_call 76;refine HC.out.mono ?_;rintro e w1 ⟨rfl,hb1⟩);go_ret2;exact ⟨rfl,hb1⟩
theorem qjk (ha:SzR k a) (hb:SzR m b) (w:World) (ht:Tab w) (h:k+m+1≤4096) :
  Rt 300 #[.string (sR a),.string (sR b)] w (.tuple #[.int .i64 (ordR a b),.int .i64 0]):=by
 have HT:=hj_ ht;obtain ⟨fa,fb,f1,f2,f3,f4,f5,f6,f7,f8,f9,f10,f11⟩:=SzR.fits ha hb h;obtain ⟨W0,hW0⟩:=ex_ (w.alloc (.cells #[.string (sR a),.string (sR b)] 38));have hB0:Below w.heap.size w W0:=by rw [hW0];exact (Below.refl _ w).alloc lr_ _
 have hS:Ss W0 (some ⟨w.heap.size,0,none⟩) 2 ([a,b].map sR):=by rw [hW0];exact Ss.fresh w [sR a,sR b] 38 #[.string (sR a),.string (sR b)] rfl
 have hK:=qjj (some ⟨w.heap.size,0,none⟩) 2 2 [a,b] W0 (ht.below hB0) hS o_ (by intro r hr;simp at hr;rcases hr with rfl | rfl <;> assumption)
 have HK:=hj_ hK;have H0:=hj_ hW0;have HB0:=hj_ hB0;have HPa:=hj_ (fun w=>qk3 (r:=a) w (Nat.le_trans fa.size d_))
 have HPb:=hj_ (fun w=>qk3 (r:=b) w (Nat.le_trans fb.size d_))
 have HX:=hj_ (fun (P:Nat) w (hc:Ch P w)=>qjs P f1 f4 f5 rfl w hc)
 have HY:=hj_ (fun (P:Nat) w (hc:Ch P w)=>qjs P f3 f2 f6 rfl w hc)
 have HC:=hj_ (fun w=>q3r f5 f6 w)
 have HV:=hj_ (show ordR a b=(a.num*b.den-b.num*a.den).sign from rfl)
 generalize ordR a b=o at *;generalize a.num*(b.den:Int)=u at *;generalize b.num*(a.den:Int)=v at *;clear ha hb h fa fb f1 f2 f3 f4 f5 f6 f7 f8 f9 f10 f11 hW0 hB0 hS hK ht
 go_enter func300,ntmps300
 go_wp2_with fail;rw [← H0.out];refine HK.out.mono ?_;rintro e wk ⟨rfl,hb⟩;have hB:=ht_ HB0.out hb;clear hb;go_wp2_with (first | (go_at_call 72;with_reducible refine up_ (HPa.out _) hB fun wk hB=>?_) | (go_at_call 72;with_reducible refine up_ (HPb.out _) hB fun wk hB=>?_))
 obtain ⟨W,hW⟩:=ex_ (wk.alloc (.cells #[.int .i64 0] 184));rw [← hW];have hCh:=q2i wk (HT.out.below hB) hW (Below.refl _ W);have HBW:=hj_ (show Below w.heap.size w W by rw [hW];exact hB.alloc hB.size _)
 have HSz:=hj_ hB.size;clear hW hB;have HC1:=hj_ hCh;clear hCh;refine (HX.out _ _ HC1.out).mono ?_;rintro e w3 ⟨rfl,hk3⟩;have HC3:=hj_ (HC1.out.kp hk3);have HG3:=hj_ hk3.gr;clear hk3;go_wp2_with fail;refine (HY.out _ _ HC3.out).mono ?_;rintro e w4 ⟨rfl,hk4⟩;have hC4:=HC3.out.kp hk4;have e4:=hC4.ce;have HB4:=hj_ (HBW.out.grown (HG3.out.trans hk4.gr) (oh_ HBW.out.size) (fun k e=>by injection e with e;have:=HSz.out;omega))
 clear hk4 hC4;go_wp2_with fail;refine (HC.out _).mono ?_;rintro e w5 ⟨rfl,hb5⟩;have hBe:=ht_ HB4.out hb5;clear hb5;go_wp2;go_ret2;exact ⟨by rw [HV.out];rfl,hBe⟩
theorem qjv (hr:FitR r) (w:World) (ht:Tab w) :
  Rt 306 #[.string (sR r)] w (.tuple #[.string (sI r.floor),.int .i64 0]):=by
 have hB:=Below.refl w.heap.size w;have HT:=hj_ ht;have hC:=fun w ht=>qji (sR r) w (Nat.le_trans hr.size d_) ht
 rw [q35 hr] at hC;have HC:=hj_ hC;have HP:=hj_ (fun w=>qk3 (r:=r) w (Nat.le_trans hr.size d_))
 have HQ:=hj_ (fun w ht=>qka hr.1 hr.2 (oh_ r.den_pos) (q8v r) w ht)
 clear hC hr ht
 go_enter func306,ntmps306
 go_wp2_with (first | (go_at_call 42;with_reducible refine up_ (HC.out _ (HT.out.below hB)) hB fun wk hB=>?_) | (go_at_call 72;with_reducible refine up_ (HP.out _) hB fun wk hB=>?_) | (go_at_call 184;with_reducible refine up_ (HQ.out _ (HT.out.below hB)) hB fun wk hB=>?_))
 go_ret2;exact ⟨rfl,hB⟩
theorem q8y (h:SzR k r):(r.floor+1).natAbs<10 ^ (k+1):=by
 obtain ⟨f1,f2⟩:=q8t r;have h1:r.floor.natAbs≤r.num.natAbs+1:=by
  have hd:=r.den_pos;have hs:=q7c r.num (y:=(r.den:Int)) o_
  rw [q8v] at hs;obtain ⟨e,e2,_⟩:=hs;have e3:=e2 o_
  generalize r.num.fmod (r.den:Int)=m at *;have hm:(r.den:Int)*r.floor=r.num-m:=o_
  rcases Int.lt_or_le r.floor 0 with h | h
  ·have:(r.den:Int)*r.floor≤1*r.floor:=Int.mul_le_mul_of_nonpos_right o_ o_
   by_cases h4:r.num<0
   ·have h5:(r.den:Int)*(r.floor+1)=r.num-m+r.den:=by rw [Int.mul_add,hm];omega
    rcases Int.lt_or_le (r.floor+1) 0 with h6 | h6
    ·have:(r.den:Int)*(r.floor+1)≤1*(r.floor+1):=Int.mul_le_mul_of_nonpos_right o_ o_
     omega
    ·omega
   ·have:r.floor<0:=h
    have h7:(r.den:Int)*r.floor≤(r.den:Int)*(-1):=Int.mul_le_mul_of_nonneg_left o_ o_
    omega
  ·have:1*r.floor≤(r.den:Int)*r.floor:=Int.mul_le_mul_of_nonneg_right o_ h
   omega
 have h2:=h.1;have hp:(10:Nat) ^ (k+1)=10*10 ^ k:=by rw [Nat.pow_succ,Nat.mul_comm]
 rw [hp];generalize (10:Nat) ^ k=P at *;omega
theorem qk6 (hr:SzR k r) (w:World) (ht:Tab w) (hk:k≤4000) :
  Rt 267 #[.string (sR r)] w (.tuple #[.string (sI (r+halfR).floor),.int .i64 0]):=by
 have hB:=Below.refl w.heap.size w;have HT:=hj_ ht;have hf:=hr.fit o_
 have hd:=r.den_pos;have ff:Fit (r.floor+1):=fit_lt (q8y hr) o_
 have HP:=hj_ (fun w=>qk3 (r:=r) w (Nat.le_trans hf.size d_))
 have HFl:=hj_ (fun w ht=>qjv hf w ht)
 have HRe:=hj_ (fun w ht=>qls hf.1 hf.2 (z:=r.num.fmod (r.den:Int)) o_ rfl w ht)
 have hm:=(q7c r.num (y:=(r.den:Int)) o_).2.1 o_
 have fr:Fit (r.num.fmod (r.den:Int)):=fit_le hf.2 o_
 have fg:Fit ((r.den:Int)-r.num.fmod (r.den:Int)):=fit_le hf.2 o_
 have HG:=hj_ (fun w ht=>qr7 hf.2 fr fg rfl w ht)
 have HCo:=hj_ (fun w=>q3r fr fg w)
 have ff0:Fit r.floor:=by have:=q7e (x:=r.num) (y:=(r.den:Int)) hf.1 o_;rw [q8v] at this;exact this
 have HA:=hj_ (fun w ht=>q07 ff0 (fit_lt (k:=1) (b:=1) d_ d_) ff rfl w ht)
 rw [show sI 1=⟨#[49]⟩ from by unfold sI;rw [qc9]] at HA
 rcases qee r with ⟨h1,h2⟩ | ⟨h1,h2⟩
 ·rw [h2]
  have hc:(r.num.fmod (r.den:Int)-((r.den:Int)-r.num.fmod (r.den:Int))).sign<0:=Int.sign_neg_iff.2 o_
  generalize (r.num.fmod (r.den:Int)-((r.den:Int)-r.num.fmod (r.den:Int))).sign=c at *;generalize (r.den:Int)-r.num.fmod (r.den:Int)=g at *;generalize r.num.fmod (r.den:Int)=m at *;clear hr ht hk hf hd ff hm fr fg ff0 h1 h2 HA
  go_enter func267,ntmps267
  go_wp2_with (first | (go_at_call 306;with_reducible refine up_ (HFl.out _ (HT.out.below hB)) hB fun wk hB=>?_) | (go_at_call 72;with_reducible refine up_ (HP.out _) hB fun wk hB=>?_) | (go_at_call 307;with_reducible refine up_ (HRe.out _ (HT.out.below hB)) hB fun wk hB=>?_) | (go_at_call 180;with_reducible refine up_ (HG.out _ (HT.out.below hB)) hB fun wk hB=>?_) | (go_at_call 308;with_reducible refine up_ (HCo.out _) hB fun wk hB=>?_))
  go_ret2;exact ⟨rfl,hB⟩
 ·rw [h2]
  have hc:¬ (r.num.fmod (r.den:Int)-((r.den:Int)-r.num.fmod (r.den:Int))).sign<0:=fun h=>h1 (by have:=Int.sign_neg_iff.1 h;omega)
  generalize (r.num.fmod (r.den:Int)-((r.den:Int)-r.num.fmod (r.den:Int))).sign=c at *;generalize (r.den:Int)-r.num.fmod (r.den:Int)=g at *;generalize r.num.fmod (r.den:Int)=m at *;clear hr ht hk hf hd ff hm fr fg ff0 h1 h2
  go_enter func267,ntmps267
  go_wp2_with (first | (go_at_call 306;with_reducible refine up_ (HFl.out _ (HT.out.below hB)) hB fun wk hB=>?_) | (go_at_call 72;with_reducible refine up_ (HP.out _) hB fun wk hB=>?_) | (go_at_call 307;with_reducible refine up_ (HRe.out _ (HT.out.below hB)) hB fun wk hB=>?_) | (go_at_call 180;with_reducible refine up_ (HG.out _ (HT.out.below hB)) hB fun wk hB=>?_) | (go_at_call 308;with_reducible refine up_ (HCo.out _) hB fun wk hB=>?_) | (go_at_call 179;with_reducible refine up_ (HA.out _ (HT.out.below hB)) hB fun wk hB=>?_))
  go_ret2;exact ⟨rfl,hB⟩
theorem qjw {n:Nat} {v:Rat} (ha:SzR k a) (hb:SzR m b) (hv:SzR n v) (w:World) (ht:Tab w) (h:k+(m+k+1+n)+1≤4096) :
  Rt 301 #[.string (sR a),.string (sR b),.string (sR v)] w (.tuple #[.string (sR (mixR a b v)),.int .i64 0]):=by
 have HT:=hj_ ht;have hd:=hb.sub ha;have HS:=hj_ (fun w ht=>qjf hb ha w ht o_)
 have HM:=hj_ (fun w ht=>qje hd hv w ht o_)
 have HA:=hj_ (fun w ht=>qjc ha (hd.mul hv) w ht o_)
 obtain ⟨W0,hW0⟩:=ex_ (w.alloc (.cells #[.string (sR a),.string (sR b),.string (sR v)] 38));have hB0:Below w.heap.size w W0:=by rw [hW0];exact (Below.refl _ w).alloc lr_ _
 have hS:Ss W0 (some ⟨w.heap.size,0,none⟩) 3 ([a,b,v].map sR):=by rw [hW0];exact Ss.fresh w [sR a,sR b,sR v] 38 #[.string (sR a),.string (sR b),.string (sR v)] rfl
 have hK:=qjj (some ⟨w.heap.size,0,none⟩) 3 3 [a,b,v] W0 (ht.below hB0) hS o_ (by
  intro r hr;simp at hr
  rcases hr with rfl | rfl | rfl
  ·exact ha.fit o_
  ·exact hb.fit o_
  ·exact hv.fit o_)
 have HK:=hj_ hK;have H0:=hj_ hW0;have HB0:=hj_ hB0;unfold mixR;generalize (b-a)*v=t at *;generalize b-a=d at *;clear ha hb hv h hd ht hW0 hB0 hS hK
 go_enter func301,ntmps301
 go_wp2_with fail;rw [← H0.out];refine HK.out.mono ?_;rintro e wk ⟨rfl,hb⟩;have hB:=ht_ HB0.out hb;clear hb;go_wp2_with (first | (go_at_call 329;with_reducible refine up_ (HS.out _ (HT.out.below hB)) hB fun wk hB=>?_) | (go_at_call 106;with_reducible refine up_ (HM.out _ (HT.out.below hB)) hB fun wk hB=>?_) | (go_at_call 61;with_reducible refine up_ (HA.out _ (HT.out.below hB)) hB fun wk hB=>?_))
 go_ret2;exact ⟨rfl,hB⟩
end Go.Proofs.YtabhjdmmfdfpeaaGreatDoor
