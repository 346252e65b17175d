/- Lemmas. -/
import Derived.Test.YtabhjdmmfdfpeaaGreatDoorKProB
namespace Go.Proofs.YtabhjdmmfdfpeaaGreatDoor
set_option maxHeartbeats 32000000
open _root_.Go.Proofs.Tryz
open Go.RowKit
variable {f:Fea} {k:Nat} {r:Rat}
theorem qii:∀ l:BT,Lib.hasPrefix l [45]=negT l
 | []=>rfl
 | c :: t=>by
  by_cases h:c=45
  ·subst h;rfl
  ·rw [qei h]
   show ((45 == c) && _)=false
   rw [show ((45:UInt8) == c)=false by rw [beq_eq_false_iff_ne];exact fun e=>h e.symm];rfl
theorem qef (l t:BT):negT (l ++ 47 :: t)=negT l:=by
 match l with
 | []=>exact qei d_
 | c :: l =>
  by_cases h:c=45
  ·subst h;rfl
  ·rw [List.cons_append,qei h,qei h]
theorem qij (r:Rat):Lib.hasPrefix (sR r).data.toList [45]=decide (r<0):=by
 rw [qii,qog];have h:negT (rT r)=negT (Lib.itoa r.num):=by
  unfold rT
  by_cases hd:r.den=1
  ·rw [if_pos hd]
  ·rw [if_neg hd,qef]
 rw [h,qeg,decide_eq_decide]
 have:=Rat.num_nonneg (q:=r)
 constructor
 ·intro h1;exact Rat.not_le.1 fun h2=>absurd (this.2 h2) o_
 ·intro h1;exact Int.not_le.1 fun h2=>absurd (this.1 h2) (Rat.not_le.2 h1)
theorem q3g (h:r<0):clampR r=((0:Int):Rat):=by unfold clampR;rw [if_pos h];rfl
theorem q3d (h:¬ r<0) (h2:65535≤r.floor):clampR r=((65535:Int):Rat):=by
 unfold clampR;rw [if_neg h]
 by_cases h3:65535<r
 ·rw [if_pos h3];rfl
 ·rw [if_neg h3]
  have h4:((65535:Int):Rat)≤r:=Rat.le_trans (q24.2 h2) (q8t r).1;exact Rat.le_antisymm (Rat.not_lt.1 h3) h4
theorem q3h (h:¬ r<0) (h2:¬ 65535≤r.floor):clampR r=r:=by
 refine q3e ⟨Rat.not_lt.1 h,?_⟩;have h3:=(q8t r).2;have h4:((r.floor+1:Int):Rat)≤((65535:Int):Rat):=q24.2 o_
 rw [Rat.intCast_add] at h4;exact Rat.le_trans (Rat.le_of_lt h3) h4
theorem q3i (h:SzR k r) (hk:5≤k):SzR k (clampR r):=by
 unfold clampR
 split
 ·exact (SzR.int (k:=5) (z:=0) d_ d_).up hk
 ·split
  ·exact (SzR.int (k:=5) (z:=65535) d_ d_).up hk
  ·exact h
theorem q00o:(⟨#[48]⟩:ByteArray)=sR ((0:Int):Rat):=by rw [sR_int];exact bs_eq (by rw [qoc,q00m])
theorem qjb (hz:SzR k r) (hk:k≤4000) (w:World) (ht:Tab w) (hr:Rng w) :
  Rt 266 #[.string (sR r)] w (.string (sR (clampR r))):=by
 have hB:=Below.refl w.heap.size w;have HT:=hj_ ht;have HRg:=hj_ hr;have HP:=hj_ (show ∀ w,Calls prog 305 #[.string (sR r),.string ⟨#[45]⟩] w fun e w'=>e=.returned (.bool (decide (r<0)))∧w' = w from fun w=>(strings_HasPrefix (sR r) ⟨#[45]⟩ w).mono (by rintro e w' ⟨rfl,rfl⟩;exact ⟨by rw [show (⟨#[45]⟩:ByteArray).data.toList=[45] from rfl,qij],rfl⟩))
 have HFl:=hj_ (fun w ht=>qjv (hz.fit o_) w ht)
 have hff:Fit r.floor:=by
  have h1:=q8y hz;unfold Fit;have h2:r.floor.natAbs<10 ^ (k+2):=by
   have:(10:Nat) ^ (k+2)=10*10 ^ (k+1):=by rw [Nat.pow_succ,Nat.mul_comm]
   have h0:0<(10:Nat) ^ (k+1):=Nat.pow_pos d_
   omega
  exact fit_lt h2 o_
 have HSm:=hj_ (fun w hr=>qqb hff w hr)
 rw [qq8 hff] at HSm;have HW:=hj_ (fun w ht=>qke (x:=65535) d_ d_ w ht)
 by_cases h0:r<0
 ·rw [decide_eq_true h0] at HP
  rw [q3g h0,← q00o];clear ht hr;generalize sR r=V at *
  go_enter func266,ntmps266
  go_wp2_with (go_at_call 305;refine (HP.out _).mono ?_;rintro e wk ⟨rfl,rfl⟩);go_ret;exact ⟨rfl,hB⟩
 ·rw [decide_eq_false h0] at HP
  by_cases h1:65535≤r.floor
  ·rw [q3d h0 h1]
   clear ht hr
   by_cases hin:-9223372036854775808≤r.floor∧r.floor≤9223372036854775807
   ·rw [if_pos hin] at HSm
    generalize sR r=V at *;generalize r.floor=fl at *;generalize sI fl=FL at *;generalize sR ((65535:Int):Rat)=MX at *;clear hff hin hz
    go_enter func266,ntmps266
    go_wp2_with (first | (go_at_call 305;refine (HP.out _).mono ?_;rintro e wk ⟨rfl,rfl⟩) | (go_at_call 306;with_reducible refine uq_ (HFl.out _ (HT.out.below hB)) hB fun wk hB=>?_) | (go_at_call 268;with_reducible refine uq_ (HSm.out _ (HRg.out.below hB)) hB fun wk hB=>?_) | (go_at_call 44;with_reducible refine uq_ (HW.out _ (HT.out.below hB)) hB fun wk hB=>?_))
    go_ret;exact ⟨rfl,hB⟩
   ·rw [if_neg hin] at HSm
    generalize sR r=V at *;generalize r.floor=fl at *;generalize sI fl=FL at *;generalize sR ((65535:Int):Rat)=MX at *;clear hff hin hz h1
    go_enter func266,ntmps266
    go_wp2_with (first | (go_at_call 305;refine (HP.out _).mono ?_;rintro e wk ⟨rfl,rfl⟩) | (go_at_call 306;with_reducible refine uq_ (HFl.out _ (HT.out.below hB)) hB fun wk hB=>?_) | (go_at_call 268;with_reducible refine uq_ (HSm.out _ (HRg.out.below hB)) hB fun wk hB=>?_) | (go_at_call 44;with_reducible refine uq_ (HW.out _ (HT.out.below hB)) hB fun wk hB=>?_))
    go_ret;exact ⟨rfl,hB⟩
  ·rw [q3h h0 h1]
   clear ht hr;have h2:0≤r.floor:=q8x (z:=0) (Rat.not_lt.1 h0);rw [if_pos o_] at HSm
   generalize sR r=V at *;generalize r.floor=fl at *;generalize sI fl=FL at *;clear hff hz h2
   go_enter func266,ntmps266
   go_wp2_with (first | (go_at_call 305;refine (HP.out _).mono ?_;rintro e wk ⟨rfl,rfl⟩) | (go_at_call 306;with_reducible refine uq_ (HFl.out _ (HT.out.below hB)) hB fun wk hB=>?_) | (go_at_call 268;with_reducible refine uq_ (HSm.out _ (HRg.out.below hB)) hB fun wk hB=>?_) | (go_at_call 44;with_reducible refine uq_ (HW.out _ (HT.out.below hB)) hB fun wk hB=>?_))
   go_ret;exact ⟨rfl,hB⟩
theorem qie (f:FC) (A':Option Addr) (n' c':Nat) (H:List Hd) (L:List (List PT)) (w:World) (hl:InN w A' n' H L) (h0:0≤f.cu) (h1:f.cu≤n') (hn:n'≤9223372036854775807) :
  Calls prog 265 #[f.val,.slice A' n' c'] w fun e w'=>∃ A2 n2 c2,e=.returned (.slice A2 n2 c2)∧shP.In w' A2 n2 (qi6 f.cu L)∧Below w.heap.size w w':=by
 obtain ⟨at_,bits,co,fi,cu,ho,lo,hi,sn,A,n,c⟩:=f
 replace h0:0≤cu:=h0;replace h1:cu≤n':=h1;show Calls prog 265 #[.agg #[.int .i64 at_,.int .i64 bits,.int .i64 co,.int .i64 fi,.int .i64 cu,.int .i64 ho,.int .i64 lo,.int .i64 hi,.bool sn,.slice A n c],.slice A' n' c'] w fun e w'=>∃ A2 n2 c2,e=.returned (.slice A2 n2 c2)∧shP.In w' A2 n2 (qi6 cu L)∧Below w.heap.size w w'
 obtain ⟨W,hW⟩:=ex_ (w.alloc (.cells #[.int .i64 at_,.int .i64 bits,.int .i64 co,.int .i64 fi,.int .i64 cu,.int .i64 ho,.int .i64 lo,.int .i64 hi,.bool sn,.slice A n c] 114))
 obtain ⟨hB0,hK⟩:=fbox at_ bits co fi cu ho lo hi sn A n c w W hW
 have HK:=hj_ hK;have HW:=hj_ hW;have HB0:=hj_ hB0;have hB:=Below.refl W.heap.size W;obtain ⟨c0,c1,c2,c3,c4,c5,c6,c7,c8,c9⟩:=hK W hB;clear hW hB0 hK;have HSt:=hj_ (fun w=>q3z w)
 by_cases hc:cu=0
 ·subst hc
  have hp:qi6 0 L=qqw:=by unfold qi6;rw [if_pos rfl]
  rw [hp];clear hl h0 h1
  go_enter func265,ntmps265
  go_wp2_with fail;rw [← HW.out];refine (HSt.out _).mono ?_;rintro e wk ⟨r,rfl,A2,c2,rfl,ho,hb⟩;replace hB:=ht_ hB hb;clear hb;go_wp2_with fail;go_ret;exact ⟨_,_,_,rfl,Sh.In.of_own ho rfl,ht_ HB0.out hB⟩
 ·obtain ⟨j,rfl⟩:∃ j:Nat,cu=((j:Nat):Int)+1:=⟨(cu-1).toNat,o_⟩
  have hj:j<n':=o_
  obtain ⟨rfl,_⟩:=id hl.1;obtain ⟨b,o,rfl,hbl,hcell⟩:=hd_at hl.1 o_
  have hjL:j<L.length:=by rw [← hl.2.1];exact hj
  have hp:qi6 ((j:Int)+1) L=L[j]:=by
   unfold qi6;rw [if_neg hc,show ((j:Int)+1-1).toNat=j by omega,qa1 hjL]
  rw [hp];have hq:=(hl.2.2 j hj hjL).below HB0.out;have p0:=(HB0.out.cell (p:=⟨b,o+j,none⟩) hbl).trans (hcell j hj);have hbw:b<W.heap.size:=Nat.lt_of_lt_of_le hbl HB0.out.size;have pw:=hcell j hj;have HQ:=hj_ hq;clear hl hcell hq;generalize H[j].A=a2 at *;generalize H[j].n=n2 at *;generalize H[j].c=d2 at *;have g0:((j:Int)+1 == 0)=false:=by rw [beq_eq_false_iff_ne];omega
  have w1:IntKind.i64.wrap ((j:Int)+1-1)=(j:Int):=by rw [Int.add_sub_cancel];exact IntWalk.i64_in _ o_
  have i0:(0:Int)≤(j:Int):=o_
  have i1:(j:Int)<(H.length:Int):=o_
  clear h0 h1 hc hp
  go_enter func265,ntmps265
  go_wp2_with fail;rw [← HW.out]
  try go_wp2_with fail
  go_ret;exact ⟨_,_,_,rfl,HQ.out,ht_ HB0.out hB⟩
theorem q0g {L:List (List PT)} (h:aloneE f L=0):errA L=0∧(f.bits=8∨f.bits=16)∧0≤f.cu∧f.cu≤L.length∧isLev f.ho∧0≤f.lo∧f.lo≤f.hi∧f.hi≤topV f.bits∧wheelE f.wh=0:=by
 unfold aloneE at h
 by_cases hA:errA L=0
 ·rw [if_neg (fun hn=>hn hA)] at h
  by_cases hb:bitsE f=0
  ·rw [if_neg (fun hn=>hn hb)] at h
   unfold innerE at h
   by_cases hc:f.cu<0∨(L.length:Int)<f.cu
   ·rw [if_pos hc] at h;exact absurd h d_
   ·rw [if_neg hc] at h
    unfold partsE at h
    by_cases hp:¬ isLev f.ho∨f.lo<0∨f.hi<f.lo∨topV f.bits<f.hi
    ·rw [if_pos hp] at h;exact absurd h d_
    ·rw [if_neg hp] at h
     refine ⟨hA,q1e hb,o_,o_,Classical.not_not.1 fun hn=>hp (.inl hn),?_,?_,?_,h⟩
     ·exact Int.not_lt.1 fun hn=>hp (.inr (.inl hn))
     ·exact Int.not_lt.1 fun hn=>hp (.inr (.inr (.inl hn)))
     ·exact Int.not_lt.1 fun hn=>hp (.inr (.inr (.inr hn)))
  ·rw [if_pos hb] at h;exact absurd h hb
 ·rw [if_pos hA] at h;exact absurd h hA
theorem qso (b:Int):topV b≤65535:=by unfold topV;split <;> omega
theorem qcu (hz:SzR k r) (hk:k≤400) (hi:InL r):errLv (sR r).data.toList=0:=by
 unfold errLv;rw [qog,q33 (hz.fit o_),if_neg d_,qz3,if_pos hi]
theorem qgw (A:Option Addr) (n c:Nat) (l:List PT) (hok:OkC l) (hz:SzR k r) (hk:k≤400) (hi:InL r) (w:World) (hl:shP.In w A n l) (ht:Tab w) :
  Rt 264 #[.slice A n c,.string (sR r)] w (.tuple #[.string (sR (valC l r)),.int .i64 0]):=by
 obtain ⟨rfl,_⟩:=id hl;have hf:=hok.few
 have:=q28 A l.length c l (sR r) w hl o_ (Nat.le_trans hz.len o_) ht
 have he:=qcu hz hk hi;have e1:errC l (sR r)=0:=by unfold errC;rw [q2t.2 hok,if_neg d_,he]
 have e2:atC l (sR r)=sR (valC l r):=by unfold atC;rw [e1,if_neg d_,qog,qz3]
 rw [e1,e2] at this;exact this
theorem ql5 {lo hi:Int} {C:List PT} (hC:OkC C) (hz:SzR 120 r) (h0:0≤lo) (h1:lo≤hi) (h2:hi≤65535) :
  SzR 120 (clampR r)∧SzR 148 (valC C (clampR r))∧SzR 5 (ratD (hi-lo))∧SzR 153 (valC C (clampR r)*ratD (hi-lo))∧0≤(valC C (clampR r)*ratD (hi-lo)+halfR).floor∧(valC C (clampR r)*ratD (hi-lo)+halfR).floor≤hi-lo:=by
 have a1:=q3i hz d_
 have a2:=hC.val_sz a1 (q3f r);have a3:SzR 5 (ratD (hi-lo)):=SzR.red d_ o_ d_
 have hi':=q3f r;obtain ⟨s1,s2⟩:=scaled (hC.lev hi'.1 hi'.2) (D:=hi-lo) o_
 obtain ⟨f1,f2⟩:=q8u s1 s2;exact ⟨a1,a2,a3,a2.mul a3,f1,f2⟩
set_option maxRecDepth 100000 in
theorem qig (f:FC) (wl:List Slt) (A':Option Addr) (n' c':Nat) (H:List Hd) (L:List (List PT)) (s:ByteArray) (w:World) (hw:FW w f wl) (hl:InN w A' n' H L) (hm:∀ h ∈ H,h.n≤9223372036854775807) (hn:n'≤9223372036854775807) (hs:s.size≤120) (ht:Tab w) (hr:Rng w) :
  Rt 207 #[f.val,.slice A' n' c',.string s] w (.tuple #[.int .i64 (rawV (f.fea wl) L s),.int .i64 (rawE (f.fea wl) L s)]):=by
 have HAl0:=hj_ (fun w hw hl=>qgi f wl A' n' c' H L w hw hl hm)
 have HT:=hj_ ht;have HRg:=hj_ hr;have HChk:=hj_ (fun w ht=>qji s w o_ ht)
 by_cases ha:aloneE (f.fea wl) L=0
 ·rw [ha] at HAl0
  have hE:rawE (f.fea wl) L s=chkR s.data.toList:=by unfold rawE;rw [if_neg (fun h=>h ha)]
  rcases qct s o_ with ⟨hc,-⟩ | ⟨r,hr',-,hv,hc,-⟩
  ·have hV:rawV (f.fea wl) L s=0:=by unfold rawV;rw [hE,if_pos hc]
   rw [hE,hV];obtain ⟨at_,bits,co,fi,cu,ho,lo,hi,sn,A,n,c⟩:=f
   have HAl:=hj_ (show ∀ w',FW w' ⟨at_,bits,co,fi,cu,ho,lo,hi,sn,A,n,c⟩ wl→InN w' A' n' H L→Calls prog 263 #[.agg #[.int .i64 at_,.int .i64 bits,.int .i64 co,.int .i64 fi,.int .i64 cu,.int .i64 ho,.int .i64 lo,.int .i64 hi,.bool sn,.slice A n c],.slice A' n' c'] w' fun e w''=>e=.returned (.int .i64 0)∧Below w'.heap.size w' w'' from HAl0.out)
   generalize chkR s.data.toList=q at *;have g1:(q == 0)=false:=by simpa using hc
   have g2:(q != 0)=true:=by simpa using hc
   show Rt 207 #[.agg #[.int .i64 at_,.int .i64 bits,.int .i64 co,.int .i64 fi,.int .i64 cu,.int .i64 ho,.int .i64 lo,.int .i64 hi,.bool sn,.slice A n c],.slice A' n' c',.string s] w (.tuple #[.int .i64 0,.int .i64 q])
   obtain ⟨W,hW⟩:=ex_ (w.alloc (.cells #[.int .i64 at_,.int .i64 bits,.int .i64 co,.int .i64 fi,.int .i64 cu,.int .i64 ho,.int .i64 lo,.int .i64 hi,.bool sn,.slice A n c] 114))
   obtain ⟨hB0,hK⟩:=fbox at_ bits co fi cu ho lo hi sn A n c w W hW
   have HK:=hj_ hK;have HW:=hj_ hW;have HB0:=hj_ hB0;have hB:=Below.refl W.heap.size W;obtain ⟨c0,c1,c2,c3,c4,c5,c6,c7,c8,c9⟩:=hK W hB;clear hW hB0 hK;replace HT:=hj_ (HT.out.below HB0.out);replace HRg:=hj_ (HRg.out.below HB0.out);have HL:=hj_ (hw.below HB0.out);have HL2:=hj_ (hl.below HB0.out);clear HAl0 hE hV hc ha hw hl hm ht hr
   go_enter func207,ntmps207
   go_wp2_with fail;rw [← HW.out];refine uq_ (HAl.out _ (HL.out.below hB) (HL2.out.below hB)) hB fun wk hB=>?_;obtain ⟨c0,c1,c2,c3,c4,c5,c6,c7,c8,c9⟩:=HK.out _ hB;go_wp2_with fail;refine uq_ (HChk.out _ (HT.out.below hB)) hB fun wk hB=>?_;obtain ⟨c0,c1,c2,c3,c4,c5,c6,c7,c8,c9⟩:=HK.out _ hB;go_wp2_with fail;go_ret2;exact ⟨rfl,ht_ HB0.out hB⟩
  ·have hz:SzR 120 r:=qpr hr' hs d_
   have hV:rawV (f.fea wl) L s=madeR f.lo f.hi (qi6 f.cu L) r:=by unfold rawV;rw [hE,hc,if_neg d_,hv];rfl
   rw [hE,hc,hV];rw [hc] at HChk;subst hr';obtain ⟨hA,hb,hc0,hc1,-,hl0,hl1,hl2,-⟩:=q0g ha;have hL:=hl.2.1;have hLn:=hl.1.1;have HPt0:=hj_ (fun w hl=>qie f A' n' c' H L w hl hc0 (by have:f.cu≤L.length:=hc1;omega) hn)
   have hC:=qi7 hA hc0 hc1;obtain ⟨at_,bits,co,fi,cu,ho,lo,hi,sn,A,n,c⟩:=f
   replace hl0:0≤lo:=hl0;replace hl1:lo≤hi:=hl1;have hl3:hi≤65535:=Int.le_trans hl2 (qso _);replace hC:OkC (qi6 cu L):=hC;have HAl:=hj_ (show ∀ w',FW w' ⟨at_,bits,co,fi,cu,ho,lo,hi,sn,A,n,c⟩ wl→InN w' A' n' H L→Calls prog 263 #[.agg #[.int .i64 at_,.int .i64 bits,.int .i64 co,.int .i64 fi,.int .i64 cu,.int .i64 ho,.int .i64 lo,.int .i64 hi,.bool sn,.slice A n c],.slice A' n' c'] w' fun e w''=>e=.returned (.int .i64 0)∧Below w'.heap.size w' w'' from HAl0.out)
   show Rt 207 #[.agg #[.int .i64 at_,.int .i64 bits,.int .i64 co,.int .i64 fi,.int .i64 cu,.int .i64 ho,.int .i64 lo,.int .i64 hi,.bool sn,.slice A n c],.slice A' n' c',.string (sR r)] w (.tuple #[.int .i64 (madeR lo hi (qi6 cu L) r),.int .i64 0])
   have HPt:=hj_ (show ∀ w',InN w' A' n' H L→Calls prog 265 #[.agg #[.int .i64 at_,.int .i64 bits,.int .i64 co,.int .i64 fi,.int .i64 cu,.int .i64 ho,.int .i64 lo,.int .i64 hi,.bool sn,.slice A n c],.slice A' n' c'] w' fun e w''=>∃ A2 n2 c2,e=.returned (.slice A2 n2 c2)∧shP.In w'' A2 n2 (qi6 cu L)∧Below w'.heap.size w' w'' from HPt0.out)
   obtain ⟨z1,z2,z3,z4,b1,b2⟩:=ql5 hC hz hl0 hl1 hl3;unfold madeR;have HWi:=hj_ (fun w ht hr=>qjb hz d_ w ht hr)
   have HAt:=hj_ (fun A2 n2 c2 w hl ht=>qgw A2 n2 c2 (qi6 cu L) hC z1 d_ (q3f r) w hl ht)
   have HPa:=hj_ (show ∀ w,Tab w→Rt 105 #[.int .i64 (hi-lo),.int .i64 65535] w (.tuple #[.string (sR (ratD (hi-lo))),.int .i64 0]) from fun w ht=>qk1 o_ o_ d_ d_ d_ w ht)
   have HMu:=hj_ (fun w ht=>qje z2 z3 w ht d_)
   have HRo:=hj_ (fun w ht=>qk6 z4 w ht d_)
   generalize hfl:(valC (qi6 cu L) (clampR r)*ratD (hi-lo)+halfR).floor=fl at *;have HSm:=hj_ (fun w hr=>qqa (x:=fl) (fit_lt (k:=6) o_ d_) o_ o_ w hr)
   have w1:IntKind.i64.wrap (hi-lo)=hi-lo:=IntWalk.i64_in _ o_
   have w2:IntKind.i64.wrap (lo+fl)=lo+fl:=IntWalk.i64_in _ o_
   clear HPt0 HAl0 hfl ha hA hb hc0 hc1 hl0 hl1 hl2 hl3 hC z1 z2 z3 z4 b1 b2 hz hL hLn hE hV hc hv;obtain ⟨W,hW⟩:=ex_ (w.alloc (.cells #[.int .i64 at_,.int .i64 bits,.int .i64 co,.int .i64 fi,.int .i64 cu,.int .i64 ho,.int .i64 lo,.int .i64 hi,.bool sn,.slice A n c] 114))
   obtain ⟨hB0,hK⟩:=fbox at_ bits co fi cu ho lo hi sn A n c w W hW
   have HK:=hj_ hK;have HW:=hj_ hW;have HB0:=hj_ hB0;have hB:=Below.refl W.heap.size W;obtain ⟨c0,c1,c2,c3,c4,c5,c6,c7,c8,c9⟩:=hK W hB;clear hW hB0 hK;replace HT:=hj_ (HT.out.below HB0.out);replace HRg:=hj_ (HRg.out.below HB0.out);have HL:=hj_ (hw.below HB0.out);have HL2:=hj_ (hl.below HB0.out);clear hw hl hm ht hr;generalize sR (valC (qi6 cu L) (clampR r))=Y at *;generalize sR (valC (qi6 cu L) (clampR r)*ratD (hi-lo))=P at *;generalize sR (clampR r)=V2 at *;generalize sR r=V at *;generalize sR (ratD (hi-lo))=D at *;generalize sI fl=FL at *;generalize qi6 cu L=C at *
   go_enter func207,ntmps207
   go_wp2_with fail;rw [← HW.out];refine uq_ (HAl.out _ (HL.out.below hB) (HL2.out.below hB)) hB fun wk hB=>?_;obtain ⟨c0,c1,c2,c3,c4,c5,c6,c7,c8,c9⟩:=HK.out _ hB;go_wp2_with fail;refine uq_ (HChk.out _ (HT.out.below hB)) hB fun wk hB=>?_;obtain ⟨c0,c1,c2,c3,c4,c5,c6,c7,c8,c9⟩:=HK.out _ hB;go_wp2_with fail;refine (HPt.out _ (HL2.out.below hB)).mono ?_;rintro e wk ⟨A2,n2,d2,rfl,hi2,hb⟩;replace hB:=ht_ hB hb;clear hb;go_wp2_with fail;refine (HWi.out _ (HT.out.below hB) (HRg.out.below hB)).mono ?_;rintro e wk ⟨rfl,hb⟩;have hi2:=hi2.below hb;replace hB:=ht_ hB hb;clear hb;go_wp2_with fail;refine uq_ (HAt.out _ _ _ _ hi2 (HT.out.below hB)) hB ?_;clear hB hi2;intro wk hB;obtain ⟨c0,c1,c2,c3,c4,c5,c6,c7,c8,c9⟩:=HK.out _ hB;go_wp2_with fail;refine uq_ (HPa.out _ (HT.out.below hB)) hB fun wk hB=>?_;obtain ⟨c0,c1,c2,c3,c4,c5,c6,c7,c8,c9⟩:=HK.out _ hB;go_wp2_with fail;refine uq_ (HMu.out _ (HT.out.below hB)) hB fun wk hB=>?_;obtain ⟨c0,c1,c2,c3,c4,c5,c6,c7,c8,c9⟩:=HK.out _ hB;go_wp2_with fail;refine uq_ (HRo.out _ (HT.out.below hB)) hB fun wk hB=>?_;obtain ⟨c0,c1,c2,c3,c4,c5,c6,c7,c8,c9⟩:=HK.out _ hB;go_wp2_with fail;refine uq_ (HSm.out _ (HRg.out.below hB)) hB fun wk hB=>?_;obtain ⟨c0,c1,c2,c3,c4,c5,c6,c7,c8,c9⟩:=HK.out _ hB;go_wp2_with fail;go_ret2;exact ⟨rfl,ht_ HB0.out hB⟩
 ·have hE:rawE (f.fea wl) L s=aloneE (f.fea wl) L:=by unfold rawE;rw [if_pos ha]
  have hV:rawV (f.fea wl) L s=0:=by unfold rawV;rw [hE,if_pos ha]
  rw [hE,hV];generalize aloneE (f.fea wl) L=q at *;have g1:(q == 0)=false:=by simpa using ha
  have g2:(q != 0)=true:=by simpa using ha
  obtain ⟨at_,bits,co,fi,cu,ho,lo,hi,sn,A,n,c⟩:=f
  have HAl:=hj_ (show ∀ w',FW w' ⟨at_,bits,co,fi,cu,ho,lo,hi,sn,A,n,c⟩ wl→InN w' A' n' H L→Calls prog 263 #[.agg #[.int .i64 at_,.int .i64 bits,.int .i64 co,.int .i64 fi,.int .i64 cu,.int .i64 ho,.int .i64 lo,.int .i64 hi,.bool sn,.slice A n c],.slice A' n' c'] w' fun e w''=>e=.returned (.int .i64 q)∧Below w'.heap.size w' w'' from HAl0.out)
  show Rt 207 #[.agg #[.int .i64 at_,.int .i64 bits,.int .i64 co,.int .i64 fi,.int .i64 cu,.int .i64 ho,.int .i64 lo,.int .i64 hi,.bool sn,.slice A n c],.slice A' n' c',.string s] w (.tuple #[.int .i64 0,.int .i64 q])
  obtain ⟨W,hW⟩:=ex_ (w.alloc (.cells #[.int .i64 at_,.int .i64 bits,.int .i64 co,.int .i64 fi,.int .i64 cu,.int .i64 ho,.int .i64 lo,.int .i64 hi,.bool sn,.slice A n c] 114))
  obtain ⟨hB0,hK⟩:=fbox at_ bits co fi cu ho lo hi sn A n c w W hW
  have HK:=hj_ hK;have HW:=hj_ hW;have HB0:=hj_ hB0;have hB:=Below.refl W.heap.size W;obtain ⟨c0,c1,c2,c3,c4,c5,c6,c7,c8,c9⟩:=hK W hB;clear hW hB0 hK;have HL:=hj_ (hw.below HB0.out);have HL2:=hj_ (hl.below HB0.out);clear HAl0 hE hV ha hw hl hm
  go_enter func207,ntmps207
  go_wp2_with fail;rw [← HW.out];refine uq_ (HAl.out _ (HL.out.below hB) (HL2.out.below hB)) hB fun wk hB=>?_;obtain ⟨c0,c1,c2,c3,c4,c5,c6,c7,c8,c9⟩:=HK.out _ hB;go_wp2_with fail;go_ret2;exact ⟨rfl,ht_ HB0.out hB⟩
theorem q13 (h:bareE f=0):(f.bits=8∨f.bits=16)∧isLev f.ho∧0≤f.lo∧f.lo≤f.hi∧f.hi≤topV f.bits∧wheelE f.wh=0:=by
 unfold bareE at h
 by_cases hb:bitsE f=0
 ·rw [if_neg (fun hn=>hn hb)] at h
  unfold partsE at h
  by_cases hp:¬ isLev f.ho∨f.lo<0∨f.hi<f.lo∨topV f.bits<f.hi
  ·rw [if_pos hp] at h;exact absurd h d_
  ·rw [if_neg hp] at h
   refine ⟨q1e hb,Classical.not_not.1 fun hn=>hp (.inl hn),?_,?_,?_,h⟩
   ·exact Int.not_lt.1 fun hn=>hp (.inr (.inl hn))
   ·exact Int.not_lt.1 fun hn=>hp (.inr (.inr (.inl hn)))
   ·exact Int.not_lt.1 fun hn=>hp (.inr (.inr (.inr hn)))
 ·rw [if_pos hb] at h;exact absurd h hb
end Go.Proofs.YtabhjdmmfdfpeaaGreatDoor
