/- Lemmas. -/
import Derived.Test.YtabhjdmmfdfpeaaGreatDoorKCurveA
namespace Go.Proofs.YtabhjdmmfdfpeaaGreatDoor
set_option maxHeartbeats 32000000
set_option maxRecDepth 100000
open _root_.Go.Proofs.Tryz
open Go.RowKit
variable {k:Nat} {a b r:Rat}
theorem q3c (v:Int) (w:World):Rt 148 #[.int .i64 v] w (.bool (decide (isLev v))):=by
 by_cases g1:0≤v
 ·by_cases g2:v≤65535
  ·rw [decide_eq_true (show isLev v from ⟨g1,g2⟩)]
   go_enter func148,ntmps148
   go_wp2;go_ret;exact ⟨qly s_,br_⟩
  ·rw [decide_eq_false (show ¬ isLev v from fun h=>g2 h.2)]
   go_enter func148,ntmps148
   go_wp2;go_ret;exact ⟨qly s_,br_⟩
 ·rw [decide_eq_false (show ¬ isLev v from fun h=>g1 h.1)]
  go_enter func148,ntmps148
  go_wp2;go_ret;exact ⟨qly s_,br_⟩
theorem q29 (A:Option Addr) (n c:Nat) (l:List PT) (w:World) (hl:shP.In w A n l) (hn:n≤9223372036854775807) :
  Rt 107 #[.slice A n c] w (.int .i64 (chkC l)):=by
 obtain ⟨rfl,_⟩:=id hl;have hB:=Below.refl w.heap.size w
 by_cases h2:l.length<2
 ·have e:chkC l=14:=if_pos h2
  rw [e];clear e
  go_enter func107,ntmps107
  go_wp2;go_ret;exact ⟨rfl,hB⟩
 ·by_cases h16:16<l.length
  ·have e:chkC l=5:=by unfold chkC;rw [if_neg h2,if_pos h16]
   rw [e];clear e
   go_enter func107,ntmps107
   go_wp2;go_ret;exact ⟨rfl,hB⟩
  ·obtain ⟨hsc1,hsc2⟩:=q2u h2 h16
   obtain ⟨E,hE⟩:=ex_ (chkC l);rw [← hE] at hsc1 hsc2 ⊢;have HS1:=hj_ (show ∀ e:Int,scanC (-1) l=e→e≠0→E=e from fun e h1 h2=>by rw [← h1];exact hsc1 (by rw [h1];exact h2))
   have HS2:=hj_ hsc2;obtain ⟨b,o,rfl,hbl,hcell⟩:=pt_at hl o_
   have HCell:=hj_ hcell;clear hE hsc1 hsc2 hB hcell
   go_enter func107,ntmps107
   go_wp2
   go_loopw [15] (fun iv wr=>∃ k:Nat,k≤l.length∧iv=.int .i64 k∧ScA l k∧Below w.heap.size w wr) (fun iv _=>l.length-(intOf iv).toNat)
   case atStart=>exact ⟨0,Nat.zero_le _,rfl,qor l,br_⟩
   case round =>
    obtain ⟨k,hk,rfl,hc,hBr⟩:=hrel;have HC:=hj_ hc;have HBr:=hj_ hBr;clear hc
    by_cases hlt:k<l.length
    ·obtain ⟨s1,s2,s3⟩:=qoq HC.out hlt
     have hp:=qiz hbl (HCell.out k hlt) hBr;have HI0:=hj_ (fun w=>q3c l[k].1 w)
     have HI1:=hj_ (fun w=>q3c l[k].2 w)
     have hbw:b<wr.heap.size:=Nat.lt_of_lt_of_le hbl hBr.size;have hq:∀ j,∀ h:k=j+1,wr.cell? ⟨b,o+j*2,none⟩=some (.int .i64 (l[j]'o_).1)∧prvX l k=(l[j]'o_).1:=fun j h=>by
      subst h;exact ⟨(qiz hbl (HCell.out j o_) hBr).1,qiw o_⟩
     have HQ:=hj_ hq;generalize l[k].1=X at *;generalize l[k].2=Y at *;have HP1:=hj_ s1;have HP2:=hj_ s2;have HP3:=hj_ s3;obtain ⟨W,hW⟩:=ex_ (wr.alloc (.cells #[.int .i64 X,.int .i64 Y] 211));have hG:=qiy wr X Y 211;have hB0:Below wr.heap.size wr W:=by rw [hW];exact (Below.refl _ wr).alloc lr_ _
     have hlW:wr.heap.size<W.heap.size:=by rw [hW];simp
     rw [← hW] at hG;have HB0:=hj_ hB0;have hB:=Below.refl W.heap.size W;have HK:=hj_ (fun w' (h:Below W.heap.size W w')=>qj0 hlW hG h)
     have HW:=hj_ hW;have hbW:b<W.heap.size:=Nat.lt_of_lt_of_le hbw hB0.size;obtain ⟨c0,c1⟩:=hG;obtain ⟨p0,p1⟩:=hp;have HFin:=hj_ (show ∀ w',Below W.heap.size W w'→Below w.heap.size w w' from fun w' h=>HBr.out.trans ((ht_ HB0.out h).mono HBr.out.size))
     clear s1 s2 s3 hq hBr hW hB0
     by_cases hx:isLev X
     ·have dx:=decide_eq_true hx
      by_cases hy:isLev Y
      ·have dy:=decide_eq_true hy
       rcases k with _ | j
       ·have HN:=hj_ (HP3.out ⟨hx,hy⟩ (qix X hx))
        simp only [Nat.zero_mul,Nat.add_zero] at p0 p1;rw [dx] at HI0;rw [dy] at HI1;clear HP1 HP2 HP3 HQ hx hy dx dy;go_wp2_with fail;rw [← HW.out];go_wp2_with (first | (go_at_call 148;with_reducible refine up_ (HI0.out _) hB fun wk hB=>?_;obtain ⟨c0,c1⟩:=HK.out _ hB) | (go_at_call 148;with_reducible refine up_ (HI1.out _) hB fun wk hB=>?_;obtain ⟨c0,c1⟩:=HK.out _ hB))
        have hd:decide ((0:Int)<0)=false:=d_
        go_quiet (fail);go_wp2
        go_roundw
        case rel=>exact ⟨0+1,o_,by go_num,HN.out,HFin.out _ (q18 hB nq)⟩
        case measure=>simp [intOf];omega
       ·obtain ⟨q0,eq⟩:=HQ.out j rfl
        have q0:=(HB0.out.cell (p:=⟨b,o+j*2,none⟩) hbw).trans q0;have HN1:=hj_ (HP2.out ⟨hx,hy⟩);have HN2:=hj_ (HP3.out ⟨hx,hy⟩);rw [eq] at HN1 HN2;rw [dx] at HI0;rw [dy] at HI1;clear HQ HP1 HP2 HP3 hx hy dx dy eq;generalize (l[j]'o_).1=X2 at *
        have HK2:=hj_ (fun w' (h:Below W.heap.size W w')=>And.intro (HK.out w' h) ((bcell h).1 b (o+j*2) hbW |>.trans q0))
        have HK:=HK2;clear HK2;have w1:IntKind.i64.wrap ((j:Int)+1-1)=(j:Int):=by rw [Int.add_sub_cancel];exact IntWalk.i64_in _ o_
        have w2:IntKind.i64.wrap (j:Int)=(j:Int):=IntWalk.i64_in _ o_
        have i0:(0:Int)≤(j:Int):=o_
        have i1:(j:Int)<(l.length:Int):=o_
        have i2:(j:Int)+1<(l.length:Int):=o_
        have i3:(0:Int)≤(j:Int)+1:=o_
        have hd:decide ((0:Int)<(j:Int)+1)=true:=by rw [decide_eq_true_eq];omega
        go_wp2_with fail;rw [← HW.out];go_wp2_with (first | (go_at_call 148;with_reducible refine up_ (HI0.out _) hB fun wk hB=>?_;obtain ⟨⟨c0,c1⟩,q0⟩:=HK.out _ hB) | (go_at_call 148;with_reducible refine up_ (HI1.out _) hB fun wk hB=>?_;obtain ⟨⟨c0,c1⟩,q0⟩:=HK.out _ hB))
        by_cases h1:X≤X2
        ·have hf:=HS1.out 9 (HN1.out h1) d_
         subst hf;go_quiet (fail);go_wp2;go_ret;exact ⟨rfl,HFin.out _ (q18 hB nq)⟩
        ·have HN3:=hj_ (HN2.out o_)
         clear HN1 HN2;go_quiet (fail);go_wp2
         go_roundw
         case rel=>exact ⟨j+1+1,o_,by go_num,HN3.out,HFin.out _ (q18 hB nq)⟩
         case measure=>simp [intOf];omega
      ·have dy:=decide_eq_false hy
       have hf:=HS1.out 2 (HP1.out (fun h=>hy h.2)) d_
       rw [dx] at HI0;rw [dy] at HI1;subst hf;clear HP1 HP2 HP3 HQ hx hy dx dy;go_wp2_with fail;rw [← HW.out];go_wp2_with (first | (go_at_call 148;with_reducible refine up_ (HI0.out _) hB fun wk hB=>?_;obtain ⟨c0,c1⟩:=HK.out _ hB) | (go_at_call 148;with_reducible refine up_ (HI1.out _) hB fun wk hB=>?_;obtain ⟨c0,c1⟩:=HK.out _ hB))
       go_ret;exact ⟨rfl,HFin.out _ hB⟩
     ·have dx:=decide_eq_false hx
      have hf:=HS1.out 2 (HP1.out (fun h=>hx h.1)) d_
      rw [dx] at HI0;subst hf;clear HP1 HP2 HP3 HQ hx dx;go_wp2_with fail;rw [← HW.out];go_wp2_with (first | (go_at_call 148;with_reducible refine up_ (HI0.out _) hB fun wk hB=>?_;obtain ⟨c0,c1⟩:=HK.out _ hB) | (go_at_call 148;with_reducible refine up_ (HI1.out _) hB fun wk hB=>?_;obtain ⟨c0,c1⟩:=HK.out _ hB))
      go_ret;exact ⟨rfl,HFin.out _ hB⟩
    ·have hs0:=qop HC.out hlt
     obtain rfl:k=l.length:=o_
     have hf:=HS2.out hs0;have hB:=Below.refl wr.heap.size wr;have hp:=qiz hbl (HCell.out 0 o_) hBr
     have hq:=qiz hbl (HCell.out (l.length-1) o_) hBr
     simp only [Nat.zero_mul,Nat.add_zero] at hp;generalize (l[0]'o_).1=X at *
     generalize (l[0]'o_).2=Y at *
     generalize (l[l.length-1]'o_).1=X2 at *
     generalize (l[l.length-1]'o_).2=Y2 at *
     have w1:IntKind.i64.wrap ((l.length:Int)-1)=(l.length:Int)-1:=IntWalk.i64_in _ o_
     have w2:((l.length:Int)-1).toNat=l.length-1:=o_
     have i0:(0:Int)<(l.length:Int):=o_
     have i1:(0:Int)≤(l.length:Int)-1:=o_
     have i2:(l.length:Int)-1<(l.length:Int):=o_
     obtain ⟨p0,p1⟩:=hp;obtain ⟨q0,q1⟩:=hq;clear HC hBr HS1 HS2 hs0
     by_cases hx:X=0
     ·by_cases hy:X2=65535
      ·subst hx hy
       rw [if_neg s_] at hf
       subst hf;go_wp2;go_ret;exact ⟨rfl,ht_ HBr.out hB⟩
      ·subst hx
       rw [if_pos (.inr hy)] at hf;subst hf;have g1:(X2 == 65535)=false:=by simpa using hy
       have g2:(X2 != 65535)=true:=by simpa using hy
       go_wp2;go_ret;exact ⟨rfl,ht_ HBr.out hB⟩
     ·rw [if_pos (.inl hx)] at hf
      subst hf;have g1:(X == 0)=false:=by simpa using hx
      have g2:(X != 0)=true:=by simpa using hx
      go_wp2;go_ret;exact ⟨rfl,ht_ HBr.out hB⟩
theorem q3z (w:World):Calls prog 304 #[] w fun e w'=>∃ r,e=.returned r∧shP.Out 211 qqw w r w':=by
 go_enter func304,ntmps304
 go_wp2;go_ret;exact ⟨_,rfl,some ⟨w.heap.size,0,none⟩,2,rfl,World.ownsRow_lit (base:=w.heap.size) w #[.int .i64 0,.int .i64 0,.int .i64 65535,.int .i64 65535] 2 lr_ d_ rfl,(Below.refl _ w).alloc lr_ _⟩
theorem q3x {m:Nat} (ha:SzR k a) (hb:SzR m b) (w:World) (ht:Tab w) (h:k+m+1≤4096) :
  Rt 330 #[.string (sR a),.string (sR b)] w (.int .i64 (ordR a b)):=by
 have hB:=Below.refl w.heap.size w;have HT:=hj_ ht;have HC:=hj_ (fun w ht=>qjk ha hb w ht h)
 generalize ordR a b=o at *;clear ha hb h ht
 go_enter func330,ntmps330
 go_wp2_with (go_at_call 300;with_reducible refine up_ (HC.out _ (HT.out.below hB)) hB fun wk hB=>?_);go_ret;exact ⟨rfl,hB⟩
theorem q20 (s:ByteArray) (w:World) (hs:s.size≤1000) (ht:Tab w) :
  Rt 302 #[.string s] w (.int .i64 (errLv s.data.toList)):=by
 have hB:=Below.refl w.heap.size w;have HT:=hj_ ht;have hC:=fun w ht=>qji s w o_ ht
 rcases qct s hs with ⟨hc,he⟩ | ⟨r,hr,hz,hv,hc,ho⟩
 ·rw [he]
  generalize chkR s.data.toList=k at *;have g1:(k == 0)=false:=by simpa using hc
  have g2:(k != 0)=true:=by simpa using hc
  have HC:=hj_ hC;clear hC hc he ht
  go_enter func302,ntmps302
  go_wp2_with (go_at_call 42;with_reducible refine up_ (HC.out _ (HT.out.below hB)) hB fun wk hB=>?_);go_ret;exact ⟨rfl,hB⟩
 ·rw [hc] at hC
  have HC:=hj_ hC;subst hr;have HW0:=hj_ (fun w ht=>qke (x:=0) o_ o_ w ht)
  have HW:=hj_ (fun w ht=>qke (x:=65535) o_ o_ w ht)
  have HO1:=hj_ (fun w ht=>q3x hz (show SzR 1 ((0:Int):Rat) from SzR.int d_ d_) w ht o_)
  have HO2:=hj_ (fun w ht=>q3x hz sz_max w ht o_)
  have hin:=qbm (r:=r);rw [show (0:Rat)=((0:Int):Rat) from rfl] at hin
  generalize ordR r ((65535:Int):Rat)=o2 at *;generalize ordR r ((0:Int):Rat)=o1 at *;generalize sR ((65535:Int):Rat)=S2 at *;generalize sR ((0:Int):Rat)=S1 at *
  rcases ho with ⟨hi,he⟩ | ⟨hi,he⟩
  ·rw [he]
   by_cases h1:o1<0
   ·clear hC hz hv hc hin hi he ht
    go_enter func302,ntmps302
    go_wp2_with (first | (go_at_call 42;with_reducible refine up_ (HC.out _ (HT.out.below hB)) hB fun wk hB=>?_) | (go_at_call 330;with_reducible refine up_ (HO1.out _ (HT.out.below hB)) hB fun wk hB=>?_) | (go_at_call 44;with_reducible refine up_ (HW0.out _ (HT.out.below hB)) hB fun wk hB=>?_) | (go_at_call 44;with_reducible refine up_ (HW.out _ (HT.out.below hB)) hB fun wk hB=>?_) | (go_at_call 330;with_reducible refine up_ (HO2.out _ (HT.out.below hB)) hB fun wk hB=>?_))
    go_ret;exact ⟨rfl,hB⟩
   ·have h2:0<o2:=by
     by_cases h:0<o2
     ·exact h
     ·exact absurd (hin.2 ⟨h1,h⟩) hi
    clear hC hz hv hc hin hi he ht
    go_enter func302,ntmps302
    go_wp2_with (first | (go_at_call 42;with_reducible refine up_ (HC.out _ (HT.out.below hB)) hB fun wk hB=>?_) | (go_at_call 330;with_reducible refine up_ (HO1.out _ (HT.out.below hB)) hB fun wk hB=>?_) | (go_at_call 44;with_reducible refine up_ (HW0.out _ (HT.out.below hB)) hB fun wk hB=>?_) | (go_at_call 44;with_reducible refine up_ (HW.out _ (HT.out.below hB)) hB fun wk hB=>?_) | (go_at_call 330;with_reducible refine up_ (HO2.out _ (HT.out.below hB)) hB fun wk hB=>?_))
    go_ret;exact ⟨rfl,hB⟩
  ·rw [he]
   obtain ⟨h1,h2⟩:=hin.1 hi;clear hC hz hv hc hin hi he ht
   go_enter func302,ntmps302
   go_wp2_with (first | (go_at_call 42;with_reducible refine up_ (HC.out _ (HT.out.below hB)) hB fun wk hB=>?_) | (go_at_call 330;with_reducible refine up_ (HO1.out _ (HT.out.below hB)) hB fun wk hB=>?_) | (go_at_call 44;with_reducible refine up_ (HW0.out _ (HT.out.below hB)) hB fun wk hB=>?_) | (go_at_call 44;with_reducible refine up_ (HW.out _ (HT.out.below hB)) hB fun wk hB=>?_) | (go_at_call 330;with_reducible refine up_ (HO2.out _ (HT.out.below hB)) hB fun wk hB=>?_))
   go_ret;exact ⟨rfl,hB⟩
set_option maxRecDepth 1000000 in
theorem qox (g:Nat) (cb:Array Value) (n:Nat) (p:Nat→Bool) (m:Nat) (w:World) (eg:∀ args w,(callFunc g args).run prog w=.ok (.enter g args) w) (hsz:n<4611686018427387904)
  (hf:∀ (i:Nat) (W:World),i<n→Below w.heap.size w W→Calls prog g (#[.int .i64 i] ++ cb) W fun e w'=>e=.returned (.bool (p i))∧Below W.heap.size W w')
  (hm:m≤n) (h1:∀ t,t<m→p t=false) (h2:∀ t,m≤t→t<n→p t=true) :
  Rt 331 #[.int .i64 n,.func (.func g) #[] cb] w (.int .i64 m):=by
 have HF:=hj_ hf;have H1:=hj_ h1;have H2:=hj_ h2;clear hf h1 h2
 go_enter func331,ntmps331
 go_wp2
 go_loopw [5,6] (fun s5 s6 wr=>∃ (lo hi:Nat),s5=.int .i64 lo∧s6=.int .i64 hi∧lo≤m∧m≤hi∧hi≤n∧Below w.heap.size w wr) (fun s5 s6 _=>(intOf s6-intOf s5).toNat)
 case atStart=>exact ⟨0,n,rfl,rfl,Nat.zero_le _,hm,Nat.le_refl _,br_⟩
 case round =>
  obtain ⟨lo,hi,rfl,rfl,hlm,hmh,hin,hBr⟩:=hrel;have HBr:=hj_ hBr
  by_cases hlt:lo<hi
  ·have hc:=HF.out ((lo+hi) / 2) wr o_ HBr.out
   have Hp:=hj_ (show ∀ b,p ((lo+hi) / 2)=b→(b=false→(lo+hi) / 2+1≤m)∧(b=true→m≤(lo+hi) / 2) from fun b hb=>by
    refine ⟨fun h=>?_,fun h=>?_⟩
    ·rcases Nat.lt_or_ge ((lo+hi) / 2) m with h3 | h3
     ·omega
     ·have:=H2.out _ h3 o_
      rw [hb,h] at this;cases this
    ·rcases Nat.lt_or_ge ((lo+hi) / 2) m with h3 | h3
     ·have:=H1.out _ h3
      rw [hb,h] at this;cases this
     ·exact h3)
   rw [show (((lo+hi) / 2:Nat):Int)=((lo:Int)+(hi:Int)) / 2 by omega] at hc
   cases hp:p ((lo+hi) / 2) <;> rw [hp] at hc
   ·have hq:=(Hp.out _ hp).1 rfl
    clear hp hBr;have HQ:=hj_ hq;clear hq;go_wp2_with (go_at_fn g;refine hc.mono ?_;rintro e w' ⟨rfl,hb⟩)
    go_roundw
    case rel=>exact ⟨(lo+hi) / 2+1,hi,by rw [show ((lo:Int)+(hi:Int)) / 2+1=(((lo+hi) / 2+1:Nat):Int) by omega],rfl,HQ.out,hmh,hin,ht_ HBr.out hb⟩
    case measure=>simp [intOf];omega
   ·have hq:=(Hp.out _ hp).2 rfl
    clear hp hBr;have HQ:=hj_ hq;clear hq;go_wp2_with (go_at_fn g;refine hc.mono ?_;rintro e w' ⟨rfl,hb⟩)
    go_roundw
    case rel=>exact ⟨lo,(lo+hi) / 2,rfl,by rw [show ((lo:Int)+(hi:Int)) / 2=(((lo+hi) / 2:Nat):Int) by omega],hlm,HQ.out,o_,ht_ HBr.out hb⟩
    case measure=>simp [intOf];omega
  ·obtain rfl:hi=lo:=by omega
   obtain rfl:m=hi:=o_
   go_wp2;go_ret;exact ⟨rfl,HBr.out⟩
theorem qfk:decide (0≤ordR a b)=decide (b≤a):=by
 rw [decide_eq_decide];refine ⟨fun h=>Rat.not_lt.1 fun h2=>?_,fun h=>Int.not_lt.1 fun h2=>Rat.not_lt.2 h (qfd.1 h2)⟩
 have:=qfd.2 h2
 omega
theorem q49 (hz:SzR k r) (hk:k≤3000) (Bc Bv b o c n:Nat) (i:Nat) (hi:i<n) (x:Int) (hx:isLev x) (W:World) (ht:Tab W)
  (hc:W.cell? ⟨Bc,0,none⟩=some (.slice (some ⟨b,o,none⟩) n c)) (hv:W.cell? ⟨Bv,0,none⟩=some (.string (sR r))) (hcell:W.cell? ⟨b,o+i*2,none⟩=some (.int .i64 x))
  (h1:Bc<W.heap.size) (h2:Bv<W.heap.size) (h3:b<W.heap.size) (_:n≤16) :
  Calls prog 332 (#[.int .i64 i] ++ #[.pointer (some ⟨Bc,0,none⟩),.pointer (some ⟨Bv,0,none⟩)]) W fun e w'=>e=.returned (.bool (decide (r≤(x:Rat))))∧Below W.heap.size W w':=by
 have HT:=hj_ ht;have hzx:SzR 5 (x:Rat):=SzR.int (by unfold isLev at hx;omega) d_
 have HW:=hj_ (fun w ht=>qke (x:=x) (by unfold isLev at hx;omega) (by unfold isLev at hx;omega) w ht)
 have HO:=hj_ (fun w ht=>q3x hzx hz w ht o_)
 have hb:=qfk (a:=(x:Rat)) (b:=r);rw [← hb];generalize ordR (x:Rat) r=oo at *;generalize sR (x:Rat)=SX at *;generalize sR r=SV at *;have HK:=hj_ (fun w' (h:Below W.heap.size W w')=>(show w'.cell? ⟨Bc,0,none⟩=some (.slice (some ⟨b,o,none⟩) n c)∧w'.cell? ⟨Bv,0,none⟩=some (.string SV)∧w'.cell? ⟨b,o+i*2,none⟩=some (.int .i64 x) from ⟨((bcell h).1 _ _ h1).trans hc,((bcell h).1 _ _ h2).trans hv,((bcell h).1 _ _ h3).trans hcell⟩))
 have hB:=Below.refl W.heap.size W;have hi1:(i:Int)<(n:Int):=o_
 clear hb hz hzx ht hx
 go_enter func332,ntmps332
 go_wp2_with fail;replace hB:=q18 hB 1;obtain ⟨c0,c1,c2⟩:=HK.out _ hB
 go_region_held3 (fun w'=>w'.cell? ⟨Bc,0,none⟩=some (.slice (some ⟨b,o,none⟩) n c)∧w'.cell? ⟨Bv,0,none⟩=some (.string SV)∧w'.cell? ⟨b,o+i*2,none⟩=some (.int .i64 x)) (exact ⟨c0,c1,c2⟩) (first | (go_at_call 44;refine up_ (HW.out _ (HT.out.below hB)) hB fun wk hB=>?_;obtain ⟨c0,c1,c2⟩:=HK.out _ hB) | (go_at_call 330;refine up_ (HO.out _ (HT.out.below hB)) hB fun wk hB=>?_;obtain ⟨c0,c1,c2⟩:=HK.out _ hB))
 go_wp2;go_ret;exact ⟨rfl,hB⟩
theorem q4a (A:Option Addr) (n c:Nat) (l:List PT) (w:World) (hl:shP.In w A n l) (hok:OkC l) (hz:SzR k r) (hk:k≤3000) (hr:InL r) (ht:Tab w) :
  Rt 303 #[.slice A n c,.string (sR r)] w (.tuple #[.string (sR (valC l r)),.int .i64 0]):=by
 obtain ⟨rfl,_⟩:=id hl;have h2:=hok.two;have h16:=hok.few;obtain ⟨b,o,rfl,hbl,hcell⟩:=pt_at hl o_
 obtain ⟨m,hm,hlow,hup⟩:=hok.first_up hr;obtain ⟨W0,hW0⟩:=ex_ ((w.alloc (.cells #[.slice (some ⟨b,o,none⟩) l.length c] 156)).alloc (.cells #[.string (sR r)] 38));have hB0:Below w.heap.size w W0:=by rw [hW0];exact ((Below.refl _ w).alloc lr_ _).alloc s_ _
 have hs0:W0.heap.size=w.heap.size+1+1:=by rw [hW0];simp
 have hc:W0.cell? ⟨w.heap.size,0,none⟩=some (.slice (some ⟨b,o,none⟩) l.length c):=by rw [hW0,World.cell?_of_block (Below.heap_alloc _ _ _ s_),World.cell?_alloc_new];rfl
 have hv:W0.cell? ⟨w.heap.size+1,0,none⟩=some (.string (sR r)):=by rw [hW0,World.cell?_alloc_at _ _ _ _ s_];rfl
 have hp:∀ t (ht:t<l.length),W0.cell? ⟨b,o+t*2,none⟩=some (.int .i64 l[t].1)∧W0.cell? ⟨b,o+t*2+1,none⟩=some (.int .i64 l[t].2):=fun t ht=>qiz hbl (hcell t ht) hB0
 have HS:=hj_ (qox 332 #[.pointer (some ⟨w.heap.size,0,none⟩),.pointer (some ⟨w.heap.size+1,0,none⟩)] l.length (fun t=>decide (r≤(((l.getD t (0,0)).1:Int):Rat))) m W0 (enters_of func332 k_ rfl) o_
  (fun i W hi hW=>by
   obtain ⟨hcc,_⟩:=bcell hW;have hx:=hok.inX hi;rw [qa3 hi];exact q49 hz hk w.heap.size (w.heap.size+1) b o c l.length i hi l[i].1 ⟨hx.1,hx.2.1⟩ W ((ht.below hB0).below hW) ((hcc _ _ o_).trans hc) ((hcc _ _ o_).trans hv) ((hcc _ _ o_).trans (hp i hi).1) (oh_ hW.size) (oh_ hW.size) (oh_ hW.size) h16)
  o_ (fun t ht=>by rw [qa3 (show t<l.length by omega)];exact decide_eq_false (Rat.not_le.2 (hlow t o_ ht))) (fun t h1 h3=>by rw [qa3 h3];exact decide_eq_true (hup t h3 h1)))
 have HT:=hj_ (ht.below hB0);have HB0:=hj_ hB0;have H0:=hj_ hW0;have HK:=hj_ (fun w' (h:Below W0.heap.size W0 w')=>(show w'.cell? ⟨w.heap.size,0,none⟩=some (.slice (some ⟨b,o,none⟩) l.length c)∧w'.cell? ⟨w.heap.size+1,0,none⟩=some (.string (sR r))∧∀ t (ht:t<l.length),w'.cell? ⟨b,o+t*2,none⟩=some (.int .i64 l[t].1)∧w'.cell? ⟨b,o+t*2+1,none⟩=some (.int .i64 l[t].2) from ⟨((bcell h).1 _ _ o_).trans hc,((bcell h).1 _ _ o_).trans hv,fun t ht=>⟨((bcell h).1 _ _ o_).trans (hp t ht).1,((bcell h).1 _ _ o_).trans (hp t ht).2⟩⟩))
 have Hok:=hj_ hok;have HLow:=hj_ hlow;have HUp:=hj_ hup;have HS0:=hj_ hs0;obtain ⟨VV,hVV⟩:=xe_ (valC l r);rw [hVV];have HV:=hj_ hVV;clear hok hlow hup hW0 hB0 hc hv hp hcell hl ht hs0 hVV
 go_enter func303,ntmps303
 go_wp2_with fail;rw [← H0.out];refine HS.out.mono ?_;rintro e w1 ⟨rfl,hb⟩;have hB:=hb;clear hb HS;obtain ⟨c0,c1,hpt⟩:=HK.out _ hB;have g1:((m:Int) == (l.length:Int))=false:=by rw [beq_eq_false_iff_ne];omega
 have HT0:=HT
 rcases m with _ | j
 ·obtain ⟨p0,p1⟩:=hpt 0 o_
  simp only [Nat.zero_mul,Nat.add_zero] at p0 p1;have hx:=Hok.out.inX (i:=0) o_
  have hval:valC l r=((l[0].2:Int):Rat):=by
   have e:=Hok.out.at (i:=0) o_
   have h0:=Hok.out.first_at;rw [h0] at e;have h1:=HUp.out 0 o_ (Nat.zero_le _)
   rw [h0] at h1;have c0:((0:Int):Rat)=0:=rfl;rw [c0] at e h1;rw [show r=0 from Rat.le_antisymm h1 hr.1,e]
  have HV2:=hj_ (HV.out.symm.trans hval);have HW:=hj_ (fun w ht=>qke (x:=l[0].2) o_ o_ w ht)
  have i1:(0:Int)<(l.length:Int):=o_
  clear hpt hval hx HUp HLow HV;go_wp2_with fail;go_quiet (fail);replace hB:=q18 hB nq;obtain ⟨c0,c1,hpt⟩:=HK.out _ hB;obtain ⟨p0,p1⟩:=hpt 0 o_
  simp only [Nat.zero_mul,Nat.add_zero] at p0 p1;go_wp2_with fail;refine up_ (HW.out _ (HT.out.below hB)) hB fun w3 hB=>?_;go_wp2;go_ret2;exact ⟨by rw [HV2.out];rfl,ht_ HB0.out hB⟩
 ·obtain ⟨p0,p1⟩:=hpt j o_
  obtain ⟨q0,q1⟩:=hpt (j+1) hm;have hx:=Hok.out.inX (i:=j) o_
  have hy:=Hok.out.inX (i:=j+1) hm;have hlt:=HLow.out j o_ o_
  have hle:=HUp.out (j+1) hm lr_;have hst:=qyc (i:=j) hm Hok.out.up;have hzx:SzR 5 (((l[j+1].1:Int):Rat)):=SzR.int o_ d_
  have HW1:=hj_ (fun w ht=>qke (x:=l[j+1].1) o_ o_ w ht)
  have HO1:=hj_ (fun w ht=>q3x hzx hz w ht o_)
  have i0:(0:Int)≤(j:Int):=o_
  have i1:(j:Int)<(l.length:Int):=o_
  have i2:(j:Int)+1<(l.length:Int):=o_
  have i3:(0:Int)≤(j:Int)+1:=o_
  have i4:((j:Int)+1 == 0)=false:=by rw [beq_eq_false_iff_ne];omega
  have w1:IntKind.i64.wrap ((j:Int)+1-1)=(j:Int):=by rw [Int.add_sub_cancel];exact IntWalk.i64_in _ o_
  have w2:IntKind.i64.wrap (j:Int)=(j:Int):=IntWalk.i64_in _ o_
  have HK2:=hj_ (fun w' (h:Below W0.heap.size W0 w')=>(show w'.cell? ⟨w.heap.size,0,none⟩=some (.slice (some ⟨b,o,none⟩) l.length c)∧w'.cell? ⟨w.heap.size+1,0,none⟩=some (.string (sR r))∧w'.cell? ⟨b,o+j*2,none⟩=some (.int .i64 (l[j]'o_).1)∧w'.cell? ⟨b,o+j*2+1,none⟩=some (.int .i64 (l[j]'o_).2)∧w'.cell? ⟨b,o+(j+1)*2,none⟩=some (.int .i64 l[j+1].1)∧w'.cell? ⟨b,o+(j+1)*2+1,none⟩=some (.int .i64 l[j+1].2) from
   have k:=HK.out w' h
   ⟨k.1,k.2.1,(k.2.2 j o_).1,(k.2.2 j o_).2,(k.2.2 (j+1) hm).1,(k.2.2 (j+1) hm).2⟩))
  obtain ⟨F,hF⟩:∃ F:Int→ByteArray,F=fun x:Int=>sR ((x:Int):Rat):=⟨_,rfl⟩
  have HWl:=hj_ (fun (x:Int) (hx:isLev x) w ht=>(show Rt 44 #[.int .i64 x] w (.string (F x)) by rw [hF];exact qke (x:=x) (by unfold isLev at hx;omega) (by unfold isLev at hx;omega) w ht))
  obtain ⟨z1,z2,z3,z4,z5,z6⟩:=seg_sz hz (a:=l[j]'o_) (b:=l[j+1]) ⟨⟨hx.1,hx.2.1⟩,hx.2.2.1,hx.2.2.2⟩ ⟨⟨hy.1,hy.2.1⟩,hy.2.2.1,hy.2.2.2⟩ hst
  have lX:isLev l[j+1].1:=⟨hy.1,hy.2.1⟩;have lY:isLev l[j+1].2:=hy.2.2;have lX2:isLev (l[j]'o_).1:=⟨hx.1,hx.2.1⟩
  have lY2:isLev (l[j]'o_).2:=hx.2.2
  have lD:isLev (l[j+1].1-(l[j]'o_).1):=by unfold isLev;omega
  have hS:=fun (w:World) (ht:Tab w)=>(show Rt 329 #[.string (sR r),.string (F l[j].1)] w (.tuple #[.string (sR (r-((l[j].1:Int):Rat))),.int .i64 0]) by rw [hF];exact qjf hz z1 w ht o_)
  have hD:=fun (w:World) (ht:Tab w)=>(show Calls prog 43 #[.string (sR (r-((l[j].1:Int):Rat))),.string (F (l[j+1].1-l[j].1))] w fun e w'=>e=.returned (.tuple #[.string (sR ((r-((l[j].1:Int):Rat)) / ((l[j+1].1-l[j].1:Int):Rat))),.int .i64 0])∧Below w.heap.size w w' by rw [hF];exact qjd z6 z4 z5 w ht o_)
  have hM:=fun (w:World) (ht:Tab w)=>(show Calls prog 301 #[.string (F l[j].2),.string (F l[j+1].2),.string (sR ((r-((l[j].1:Int):Rat)) / ((l[j+1].1-l[j].1:Int):Rat)))] w fun e w'=>e=.returned (.tuple #[.string (sR (mixR ((l[j].2:Int):Rat) ((l[j+1].2:Int):Rat) ((r-((l[j].1:Int):Rat)) / ((l[j+1].1-l[j].1:Int):Rat)))),.int .i64 0])∧Below w.heap.size w w' by rw [hF];exact qjw z2 z3 (z6.div z4 z5) w ht o_)
  have hO2:=fun (w:World) (ht:Tab w)=>(show Rt 330 #[.string (F l[j+1].1),.string (sR r)] w (.int .i64 (ordR ((l[j+1].1:Int):Rat) r)) by rw [hF];exact HO1.out w ht)
  obtain ⟨hlo,hval,-⟩:=Hok.out.place hr.1 (i:=j) hm (fun t ht _ h2=>HLow.out t ht o_) hle
  unfold segR at hval;have HVe:=hj_ (show ordR ((l[j+1].1:Int):Rat) r=0→F l[j+1].2=sR VV from fun h=>by
   have heq:=qfj.1 h;rw [hF,← HV.out,← heq];exact congrArg sR (Hok.out.at hm).symm)
  have HVn:=hj_ (HV.out.symm.trans hval);have w5:IntKind.i64.wrap (l[j+1].1-l[j].1)=l[j+1].1-l[j].1:=IntWalk.i64_in _ o_
  generalize mixR ((l[j].2:Int):Rat) ((l[j+1].2:Int):Rat) ((r-((l[j].1:Int):Rat)) / ((l[j+1].1-l[j].1:Int):Rat))=MM at *;generalize (r-((l[j].1:Int):Rat)) / ((l[j+1].1-l[j].1:Int):Rat)=QQ at *;generalize r-((l[j].1:Int):Rat)=DD at *;generalize ordR ((l[j+1].1:Int):Rat) r=oo at *;generalize sR r=SV at *;generalize sR QQ=SQ at *;generalize sR DD=SD at *;have HO2:=hj_ hO2;have HS:=hj_ hS;have HD:=hj_ hD;have HM:=hj_ hM;generalize l[j+1].2=Y at *;generalize l[j+1].1=X at *;generalize l[j].2=Y2 at *;generalize l[j].1=X2 at *;clear hpt HK HLow HUp HV hval hlt hle hlo hx hy hst hzx hz z1 z2 z3 z4 z5 z6 hS hD hM hO2 HO1 HW1 hF;go_wp2_with fail;replace hB:=q18 hB 1;obtain ⟨c0,c1,p0,p1,q0,q1⟩:=HK2.out _ hB
  go_region_held3 (fun w'=>w'.cell? ⟨w.heap.size,0,none⟩=some (.slice (some ⟨b,o,none⟩) l.length c)∧w'.cell? ⟨w.heap.size+1,0,none⟩=some (.string SV)∧w'.cell? ⟨b,o+(j+1)*2,none⟩=some (.int .i64 X)) (exact ⟨c0,c1,q0⟩) (first | (go_at_call 44;refine up_ (HWl.out _ (by assumption) _ (HT.out.below hB)) hB fun wk hB=>?_;obtain ⟨c0,c1,p0,p1,q0,q1⟩:=HK2.out _ hB) | (go_at_call 330;refine up_ (HO2.out _ (HT.out.below hB)) hB fun wk hB=>?_;obtain ⟨c0,c1,p0,p1,q0,q1⟩:=HK2.out _ hB))
  by_cases hoo:oo=0
  ·have g2:(oo == 0)=true:=by simpa using hoo
   have HV2:=hj_ (HVe.out hoo);clear hoo HVe HVn HS HD HM;go_wp2_with (go_at_call 44;with_reducible refine up_ (HWl.out _ (by assumption) _ (HT.out.below hB)) hB fun wk hB=>?_)
   go_ret2;exact ⟨by rw [← HV2.out];rfl,ht_ HB0.out hB⟩
  ·have g2:(oo == 0)=false:=by simpa using hoo
   clear hoo HVe;go_wp2_with fail
   rename World=>wc
   have hsc:=hB.size;have hs0:=HS0.out;have n1:b<wc.heap.size:=o_
   have n2:¬ b=wc.heap.size:=o_
   have n3:¬ b=wc.heap.size+1:=o_
   have n4:b<wc.heap.size+1:=o_
   have n5:w.heap.size<wc.heap.size:=o_
   have n6:¬ w.heap.size=wc.heap.size:=o_
   have n7:¬ w.heap.size=wc.heap.size+1:=o_
   have n8:w.heap.size<wc.heap.size+1:=o_
   have n9:w.heap.size+1<wc.heap.size:=o_
   have n10:¬ w.heap.size+1=wc.heap.size:=o_
   have n11:¬ w.heap.size+1=wc.heap.size+1:=o_
   have n12:w.heap.size+1<wc.heap.size+1:=o_
   clear hs0 hsc;obtain ⟨Ok6,hOk6⟩:∃ Ok6:World→Nat→Nat→Prop,Ok6=fun W6 Pa Pb=>(Tab W6∧Below w.heap.size w W6)∧∀ w',Below W6.heap.size W6 w'→w'.cell? ⟨w.heap.size+1,0,none⟩=some (.string SV)∧w'.cell? ⟨Pa,0,none⟩=some (.int .i64 X2)∧w'.cell? ⟨Pa,1,none⟩=some (.int .i64 Y2)∧w'.cell? ⟨Pb,0,none⟩=some (.int .i64 X)∧w'.cell? ⟨Pb,1,none⟩=some (.int .i64 Y):=⟨_,rfl⟩
   have HOk:=hj_ hOk6;clear hOk6;refine (fun (key:(?S:Prop))=>?main) ?kk
   case main =>
    go_region
    ·generalize hW6q:World.drew _=W6
     have hW6:((wc.alloc (.cells #[.int .i64 X2,.int .i64 Y2] 211)).alloc (.cells #[.int .i64 X,.int .i64 Y] 211)).drew=W6:=hW6q;clear hW6q;obtain ⟨hbb,hkb⟩:=qth wc X2 Y2 X Y W6 hW6;have hok:Ok6 W6 (wc.heap.size) (wc.heap.size+1):=by
      rw [HOk.out];exact ⟨⟨(HT.out.below hB).below hbb,HB0.out.trans ((ht_ hB hbb).mono HB0.out.size)⟩,fun w' h=>⟨((bcell (ht_ hbb h)).1 _ _ n9).trans c1,(hkb w' h).1.1,(hkb w' h).1.2,(hkb w' h).2.1,(hkb w' h).2.2⟩⟩
     clear hW6 hbb hkb
     revert hok
     generalize wc.heap.size+1=Pb;generalize wc.heap.size=Pa
     revert W6 Pa Pb
     exact key
    ·generalize hW6q:World.drew _=W6
     have hW6:((wc.alloc (.cells #[.int .i64 X,.int .i64 Y] 211)).alloc (.cells #[.int .i64 X2,.int .i64 Y2] 211)).drew=W6:=hW6q;clear hW6q;obtain ⟨hbb,hkb⟩:=qth wc X Y X2 Y2 W6 hW6;have hok:Ok6 W6 (wc.heap.size+1) (wc.heap.size):=by
      rw [HOk.out];exact ⟨⟨(HT.out.below hB).below hbb,HB0.out.trans ((ht_ hB hbb).mono HB0.out.size)⟩,fun w' h=>⟨((bcell (ht_ hbb h)).1 _ _ n9).trans c1,(hkb w' h).2.1,(hkb w' h).2.2,(hkb w' h).1.1,(hkb w' h).1.2⟩⟩
     clear hW6 hbb hkb;exact key _ _ _ hok
   case kk =>
    intro W6 Pb Pa hok;rw [HOk.out] at hok;have HT6:=hj_ hok.1.1;have HB6:=hj_ hok.1.2;have HK6:=hj_ hok.2;clear hok HOk c0 c1 p0 p1 q0 q1 n1 n2 n3 n4 n5 n6 n7 n8 n9 n10 n11 n12 hB;have hB:=Below.refl W6.heap.size W6;obtain ⟨c1,a0,a1,b0,b1⟩:=HK6.out _ hB;go_wp2_with fail;replace hB:=q18 hB 1;obtain ⟨c1,a0,a1,b0,b1⟩:=HK6.out _ hB
    go_region_held3 (fun w'=>w'.cell? ⟨w.heap.size+1,0,none⟩=some (.string SV)∧w'.cell? ⟨Pa,0,none⟩=some (.int .i64 X2)) (exact ⟨c1,a0⟩) (first | (go_at_call 44;refine up_ (HWl.out _ (by assumption) _ (HT6.out.below hB)) hB fun wk hB=>?_;obtain ⟨c1,a0,a1,b0,b1⟩:=HK6.out _ hB) | (go_at_call 329;refine up_ (HS.out _ (HT6.out.below hB)) hB fun wk hB=>?_;obtain ⟨c1,a0,a1,b0,b1⟩:=HK6.out _ hB))
    go_wp2_with (first | (go_at_call 44;with_reducible refine up_ (HWl.out _ (by assumption) _ (HT6.out.below hB)) hB fun wk hB=>?_;obtain ⟨c1,a0,a1,b0,b1⟩:=HK6.out _ hB) | (go_at_call 43;with_reducible refine up_ (HD.out _ (HT6.out.below hB)) hB fun wk hB=>?_;obtain ⟨c1,a0,a1,b0,b1⟩:=HK6.out _ hB))
    replace hB:=q18 hB 1;obtain ⟨c1,a0,a1,b0,b1⟩:=HK6.out _ hB
    go_region_held3 (fun w'=>w'.cell? ⟨Pa,1,none⟩=some (.int .i64 Y2)∧w'.cell? ⟨Pb,1,none⟩=some (.int .i64 Y)) (exact ⟨a1,b1⟩) (first | (go_at_call 44;refine up_ (HWl.out _ (by assumption) _ (HT6.out.below hB)) hB fun wk hB=>?_;obtain ⟨c1,a0,a1,b0,b1⟩:=HK6.out _ hB) | (go_at_call 301;refine up_ (HM.out _ (HT6.out.below hB)) hB fun wk hB=>?_;obtain ⟨c1,a0,a1,b0,b1⟩:=HK6.out _ hB))
    go_wp2;go_ret2;exact ⟨by rw [HVn.out];rfl,ht_ HB6.out hB⟩
theorem q28 (A:Option Addr) (n c:Nat) (l:List PT) (s:ByteArray) (w:World) (hl:shP.In w A n l) (hn:n≤9223372036854775807) (hs:s.size≤1000) (ht:Tab w) :
  Rt 264 #[.slice A n c,.string s] w (.tuple #[.string (atC l s),.int .i64 (errC l s)]):=by
 have hB:=Below.refl w.heap.size w;have HL:=hj_ hl;have HT:=hj_ ht;have HC:=hj_ (fun w hl=>q29 A n c l w hl hn)
 have HI:=hj_ (fun w ht=>q20 s w hs ht)
 by_cases h1:chkC l=0
 ·rcases qct s hs with ⟨hc,he⟩ | ⟨r,rfl,hz,hv,hc,⟨hi,he⟩ | ⟨hi,he⟩⟩
  ·have e1:errC l s=errLv s.data.toList:=by unfold errC;rw [h1,if_neg d_]
   have hne:errLv s.data.toList≠0:=by rw [he];exact hc
   have e2:atC l s=⟨#[]⟩:=by unfold atC;rw [e1,if_pos hne]
   rw [e1,e2];rw [h1] at HC;generalize errLv s.data.toList=q at *;have g1:(q == 0)=false:=by simpa using hne
   have g2:(q != 0)=true:=by simpa using hne
   clear e1 e2 hne h1 hl hc he ht
   go_enter func264,ntmps264
   go_wp2_with (first | (go_at_call 107;with_reducible refine up_ (HC.out _ (HL.out.below hB)) hB fun wk hB=>?_) | (go_at_call 302;with_reducible refine up_ (HI.out _ (HT.out.below hB)) hB fun wk hB=>?_))
   go_ret2;exact ⟨rfl,hB⟩
  ·have e1:errC l (sR r)=2:=by unfold errC;rw [h1,if_neg d_,he]
   have e2:atC l (sR r)=⟨#[]⟩:=by unfold atC;rw [e1,if_pos d_]
   rw [e1,e2];rw [h1] at HC;rw [he] at HI;clear ht e1 e2 h1 hl hc he hv hz hi
   go_enter func264,ntmps264
   go_wp2_with (first | (go_at_call 107;with_reducible refine up_ (HC.out _ (HL.out.below hB)) hB fun wk hB=>?_) | (go_at_call 302;with_reducible refine up_ (HI.out _ (HT.out.below hB)) hB fun wk hB=>?_))
   go_ret2;exact ⟨rfl,hB⟩
  ·have e1:errC l (sR r)=0:=by unfold errC;rw [h1,if_neg d_,he]
   have e2:atC l (sR r)=sR (valC l r):=by unfold atC;rw [e1,if_neg d_,hv]
   have HVa:=hj_ (fun w hl ht=>q4a A n c l w hl (q2t.1 h1) hz d_ hi ht)
   rw [e1,e2];rw [h1] at HC;rw [he] at HI;generalize sR (valC l r)=S2 at *;clear ht e1 e2 h1 hl hc he hv hz hi
   go_enter func264,ntmps264
   go_wp2_with (first | (go_at_call 107;with_reducible refine up_ (HC.out _ (HL.out.below hB)) hB fun wk hB=>?_) | (go_at_call 302;with_reducible refine up_ (HI.out _ (HT.out.below hB)) hB fun wk hB=>?_) | (go_at_call 303;with_reducible refine up_ (HVa.out _ (HL.out.below hB) (HT.out.below hB)) hB fun wk hB=>?_))
   go_ret2;exact ⟨rfl,hB⟩
 ·have e1:errC l s=chkC l:=by unfold errC;rw [if_pos h1]
  have e2:atC l s=⟨#[]⟩:=by unfold atC;rw [e1,if_pos h1]
  rw [e1,e2];generalize chkC l=q at *;have g1:(q == 0)=false:=by simpa using h1
  have g2:(q != 0)=true:=by simpa using h1
  clear ht e1 e2 h1 hl
  go_enter func264,ntmps264
  go_wp2_with (go_at_call 107;with_reducible refine up_ (HC.out _ (HL.out.below hB)) hB fun wk hB=>?_);go_ret2;exact ⟨rfl,hB⟩
end Go.Proofs.YtabhjdmmfdfpeaaGreatDoor
