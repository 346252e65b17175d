/- Lemmas. -/
import Derived.Test.YtabhjdmmfdfpeaaGreatDoorKLevB
namespace Go.Proofs.YtabhjdmmfdfpeaaGreatDoor
set_option maxHeartbeats 32000000
set_option maxRecDepth 100000
open _root_.Go.Proofs.Tryz
open Go.RowKit
variable {L:List (List PT)} {c l:List PT} {b i j k:Nat} {r:Rat} {v0 v1:Value} {w w':World}
def shP:Sh PT:=⟨2,fun q=>[.int .i64 q.1,.int .i64 q.2],fun _=>rfl,fun a=>by simp;exact ⟨rfl,rfl⟩⟩
theorem pt_at {A:Option Addr} {n:Nat} (h:shP.In w A n l) (h0:0<l.length) :
  ∃ b o,A=some ⟨b,o,none⟩∧b<w.heap.size∧∀ k (hk:k<l.length),w.cell? ⟨b,o+k*2,none⟩=some (.int .i64 l[k].1)∧w.cell? ⟨b,o+k*2+1,none⟩=some (.int .i64 l[k].2):=by
 obtain ⟨b,o,e,hb,hc⟩:=h.at_ h0
 exact ⟨b,o,e,hb,fun k hk=>⟨hc k hk 0 _ d_ rfl,hc k hk 1 _ d_ rfl⟩⟩
theorem qiz {o:Nat} (hb:b<w.heap.size) (h:w.cell? ⟨b,o,none⟩=some v0∧w.cell? ⟨b,o+1,none⟩=some v1) (hB:Below w.heap.size w w') :
  w'.cell? ⟨b,o,none⟩=some v0∧w'.cell? ⟨b,o+1,none⟩=some v1:=by
 obtain ⟨hcc,_⟩:=bcell hB;exact ⟨(hcc _ _ hb).trans h.1,(hcc _ _ hb).trans h.2⟩
theorem qj0 (hb:b<w.heap.size) (h:w.cell? ⟨b,0,none⟩=some v0∧w.cell? ⟨b,1,none⟩=some v1) (hB:Below w.heap.size w w') :
  w'.cell? ⟨b,0,none⟩=some v0∧w'.cell? ⟨b,1,none⟩=some v1:=qiz (o:=0) hb h hB
theorem qiy (w:World) (x y:Int) (t:TypeId):(w.alloc (.cells #[.int .i64 x,.int .i64 y] t)).cell? ⟨w.heap.size,0,none⟩=some (.int .i64 x)∧(w.alloc (.cells #[.int .i64 x,.int .i64 y] t)).cell? ⟨w.heap.size,1,none⟩=some (.int .i64 y):=by
 rw [World.cell?_alloc_new,World.cell?_alloc_new];exact ⟨rfl,rfl⟩
def prvX (l:List PT) (k:Nat):Int:=if k=0 then -1 else (l.getD (k-1) (0,0)).1
theorem qiw (h:j<l.length):prvX l (j+1)=l[j].1:=by
 unfold prvX;rw [if_neg o_,Nat.add_sub_cancel]
 simp [List.getD,h]
def ScA (l:List PT) (k:Nat):Prop:=scanC (prvX l k) (l.drop k)=scanC (-1) l
theorem qor (l:List PT):ScA l 0:=rfl
theorem qoq (h:ScA l k) (hk:k<l.length) :
  (¬ (isLev l[k].1∧isLev l[k].2)→scanC (-1) l=2)∧(isLev l[k].1∧isLev l[k].2→l[k].1≤prvX l k→scanC (-1) l=9)∧(isLev l[k].1∧isLev l[k].2→¬ l[k].1≤prvX l k→ScA l (k+1)):=by
 unfold ScA at h;rw [List.drop_eq_getElem_cons hk,scanC] at h;refine ⟨fun h1=>?_,fun h1 h2=>?_,fun h1 h2=>?_⟩
 ·rw [← h,if_pos h1]
 ·rw [← h,if_neg (fun hn=>hn h1),if_pos h2]
 ·rw [if_neg (fun hn=>hn h1),if_neg h2] at h
  unfold ScA;rw [qiw hk];exact h
theorem qop (h:ScA l k) (hk:¬ k<l.length):scanC (-1) l=0:=by
 unfold ScA at h;rw [List.drop_eq_nil_of_le o_] at h
 rw [← h];rfl
theorem qix (x:Int) (h:isLev x):¬ x≤prvX l 0:=by
 unfold isLev at h
 have:prvX l 0=-1:=rfl
 omega
theorem q2u (h2:¬ l.length<2) (h16:¬ 16<l.length):(scanC (-1) l≠0→chkC l=scanC (-1) l)∧(scanC (-1) l=0→chkC l=if (l[0]'o_).1≠0∨(l[l.length-1]'o_).1≠65535 then 14 else 0):=by
 unfold chkC;rw [if_neg h2,if_neg h16];refine ⟨fun h=>by rw [if_pos h],fun h=>?_⟩
 rw [if_neg (by simpa using h),q8d o_,qcm o_]
theorem OkC.place (h:OkC c) (h0:0≤r) (hi:i+1<c.length) (hlow:∀ j (hj:j<c.length),0<j→j<i+1→(c[j].1:Rat)<r) (hup:r≤(c[i+1].1:Rat)) :
  ((c[i]'o_).1:Rat)≤r∧valC c r=segR (c[i]'o_) c[i+1] r∧(c[i]'o_).1<c[i+1].1:=by
 have hlo:((c[i]'o_).1:Rat)≤r:=by
  rcases i with _ | i
  ·have e:=h.first
   rw [q8d o_] at e
   rw [e];exact h0
  ·exact Rat.le_of_lt (hlow _ o_ o_ o_)
 exact ⟨hlo,qyx h.up hi hlo hup,qyc hi h.up⟩
theorem OkC.inX (h:OkC c) (hi:i<c.length):0≤c[i].1∧c[i].1≤65535∧0≤c[i].2∧c[i].2≤65535:=by
 obtain ⟨a,b⟩:=up_lev hi h.up;exact ⟨a.1,a.2,b.1,b.2⟩
theorem OkC.first_at (h:OkC c):(c[0]'(oh_ h.two)).1=0:=by
 have e:=h.first
 rwa [q8d (oh_ h.two)] at e
theorem OkC.mono_at (h:OkC c) (hij:i≤j) (hj:j<c.length):(c[i]'o_).1≤c[j].1:=by
 induction j with
 | zero =>
      obtain rfl:i=0:=o_
      exact Int.le_refl _
 | succ j ih =>
  by_cases e:i=j+1
  ·subst e;exact Int.le_refl _
  ·exact Int.le_trans (ih o_ o_) (Int.le_of_lt (qyc hj h.up))
theorem seg_sz {a b:PT} (hz:SzR k r) (a0:isLev a.1∧isLev a.2) (b0:isLev b.1∧isLev b.2) (hab:a.1<b.1) :
  SzR 5 (a.1:Rat)∧SzR 5 (a.2:Rat)∧SzR 5 (b.2:Rat)∧SzR 5 ((b.1-a.1:Int):Rat)∧((b.1-a.1:Int):Rat)≠0∧SzR (k+5+1) (r-(a.1:Rat)):=by
 unfold isLev at a0 b0;have ha:SzR 5 (a.1:Rat):=SzR.int o_ d_
 refine ⟨ha,SzR.int o_ d_,SzR.int o_ d_,SzR.int o_ d_,?_,hz.sub ha⟩
 have:=q27 (show 0<b.1-a.1 by omega)
 grind
theorem qa3 (h:k<l.length):l.getD k (0,0)=l[k]:=by simp [List.getD,h]
def errC (l:List PT) (s:ByteArray):Int:=if chkC l≠0 then chkC l else errLv s.data.toList
def atC (l:List PT) (s:ByteArray):ByteArray:=if errC l s≠0 then ⟨#[]⟩ else sR (valC l (valR s.data.toList))
def allE:List (List PT)→Int
 | []=>0
 | c :: r=>if chkC c≠0 then chkC c else allE r
def errA (L:List (List PT)):Int:=if 16<L.length then 5 else allE L
theorem q0c (h:allE L=0):∀ c ∈ L,OkC c:=by
 induction L with
 | nil=>intro c hc;cases hc
 | cons d r ih =>
  rw [allE] at h
  by_cases h1:chkC d≠0
  ·rw [if_pos h1] at h;exact absurd h h1
  ·rw [if_neg h1] at h
   intro c hc
   rcases List.mem_cons.1 hc with rfl | hc
   ·exact q2t.1 (Classical.not_not.1 h1)
   ·exact ih h c hc
theorem q0d (h:allE (L.drop k)=allE L) (hk:k<L.length):(chkC L[k]≠0→allE L=chkC L[k])∧(chkC L[k]=0→allE (L.drop (k+1))=allE L):=by
 rw [List.drop_eq_getElem_cons hk,allE] at h;refine ⟨fun h1=>?_,fun h1=>?_⟩
 ·rw [← h,if_pos h1]
 ·rw [if_neg (fun hn=>hn h1)] at h;exact h
theorem q0b (h:allE (L.drop k)=allE L) (hk:¬ k<L.length):allE L=0:=by
 rw [← h,List.drop_eq_nil_of_le o_];rfl
theorem OkC.val_sz (h:OkC c) (hz:SzR k r) (hr:InL r):SzR (k+28) (valC c r):=by
 obtain ⟨i,hi,h2,h3,e,hs⟩:=h.seg hr.1 hr.2;obtain ⟨z1,z2,z3,z4,z5,z6⟩:=seg_sz hz (up_lev (i:=i) o_ h.up) (up_lev hi h.up) hs
 rw [e]
 have:=z2.mix z3 (z6.div z4 z5)
 exact this.up o_
theorem ris9 (v:Int) (w:World):Rt 160 #[.int .i64 v] w (.bool (decide (isLev v))) :=
 (qmm v w).mono (by rintro e w' ⟨rfl,rfl⟩;exact ⟨by rw [show decide (isLev v)=decide (0≤v∧v≤65535) from decide_eq_decide.2 Iff.rfl],br_⟩)
theorem qkh (A:Option Addr) (n c:Nat) (l:List PT) (w:World) (hl:shP.In w A n l) (hn:n≤9223372036854775807) :
  Rt 112 #[.slice A n c] w (.int .i64 (chkC l)):=by
 obtain ⟨rfl,_⟩:=id hl;have hB:=Below.refl w.heap.size w
 by_cases h2:l.length<2
 ·have e:chkC l=14:=if_pos h2
  rw [e];clear e
  go_enter func112,ntmps112
  go_wp2;go_ret;exact ⟨rfl,hB⟩
 ·by_cases h16:16<l.length
  ·have e:chkC l=5:=by unfold chkC;rw [if_neg h2,if_pos h16]
   rw [e];clear e
   go_enter func112,ntmps112
   go_wp2;go_ret;exact ⟨rfl,hB⟩
  ·obtain ⟨hsc1,hsc2⟩:=q2u h2 h16
   obtain ⟨E,hE⟩:=ex_ (chkC l);rw [← hE] at hsc1 hsc2 ⊢;have HS1:=hj_ (show ∀ e:Int,scanC (-1) l=e→e≠0→E=e from fun e h1 h2=>by rw [← h1];exact hsc1 (by rw [h1];exact h2))
   have HS2:=hj_ hsc2;obtain ⟨b,o,rfl,hbl,hcell⟩:=pt_at hl o_
   have HCell:=hj_ hcell;clear hE hsc1 hsc2 hB hcell
   go_enter func112,ntmps112
   go_wp2
   go_loopw [3] (fun iv wr=>∃ k:Nat,k≤l.length∧iv=.int .i64 k∧ScA l k∧Below w.heap.size w wr) (fun iv _=>l.length-(intOf iv).toNat)
   case atStart=>exact ⟨0,Nat.zero_le _,rfl,qor l,br_⟩
   case round =>
    obtain ⟨k,hk,rfl,hc,hBr⟩:=hrel;have HC:=hj_ hc;have HBr:=hj_ hBr;clear hc
    by_cases hlt:k<l.length
    ·obtain ⟨s1,s2,s3⟩:=qoq HC.out hlt
     have hp:=qiz hbl (HCell.out k hlt) hBr;have HI0:=hj_ (fun w=>ris9 l[k].1 w)
     have HI1:=hj_ (fun w=>ris9 l[k].2 w)
     have hbw:b<wr.heap.size:=Nat.lt_of_lt_of_le hbl hBr.size;have hq:∀ j,∀ h:k=j+1,wr.cell? ⟨b,o+j*2,none⟩=some (.int .i64 (l[j]'o_).1)∧prvX l k=(l[j]'o_).1:=fun j h=>by
      subst h;exact ⟨(qiz hbl (HCell.out j o_) hBr).1,qiw o_⟩
     have HQ:=hj_ hq;generalize l[k].1=X at *;generalize l[k].2=Y at *;have HP1:=hj_ s1;have HP2:=hj_ s2;have HP3:=hj_ s3;have hB:=Below.refl wr.heap.size wr;have HK:=hj_ (fun w' (h:Below wr.heap.size wr w')=>qiz hbw hp h)
     obtain ⟨p0,p1⟩:=hp;clear s1 s2 s3 hq hBr
     by_cases hx:isLev X
     ·have dx:=decide_eq_true hx
      by_cases hy:isLev Y
      ·have dy:=decide_eq_true hy
       rcases k with _ | j
       ·have HN:=hj_ (HP3.out ⟨hx,hy⟩ (qix X hx))
        simp only [Nat.zero_mul,Nat.add_zero] at p0 p1;rw [dx] at HI0;rw [dy] at HI1;clear HP1 HP2 HP3 HQ hx hy dx dy;go_wp2_with (first | (go_at_call 160;with_reducible refine up_ (HI0.out _) hB fun wk hB=>?_;obtain ⟨p0,p1⟩:=HK.out _ hB) | (go_at_call 160;with_reducible refine up_ (HI1.out _) hB fun wk hB=>?_;obtain ⟨p0,p1⟩:=HK.out _ hB))
        have hd:decide ((0:Int)<0)=false:=d_
        go_quiet (fail);go_wp2
        go_roundw
        case rel=>exact ⟨0+1,o_,by go_num,HN.out,HBr.out.trans ((q18 hB nq).mono HBr.out.size)⟩
        case measure=>simp [intOf];omega
       ·obtain ⟨q0,eq⟩:=HQ.out j rfl
        have HN1:=hj_ (HP2.out ⟨hx,hy⟩);have HN2:=hj_ (HP3.out ⟨hx,hy⟩);rw [eq] at HN1 HN2;rw [dx] at HI0;rw [dy] at HI1;clear HQ HP1 HP2 HP3 hx hy dx dy eq;generalize (l[j]'o_).1=X2 at *
        have HK2:=hj_ (fun w' (h:Below wr.heap.size wr w')=>And.intro (HK.out w' h) ((bcell h).1 b (o+j*2) hbw |>.trans q0))
        have HK:=HK2;clear HK2;have w1:IntKind.i64.wrap ((j:Int)+1-1)=(j:Int):=by rw [Int.add_sub_cancel];exact IntWalk.i64_in _ o_
        have w2:IntKind.i64.wrap (j:Int)=(j:Int):=IntWalk.i64_in _ o_
        have i0:(0:Int)≤(j:Int):=o_
        have i1:(j:Int)<(l.length:Int):=o_
        have i2:(j:Int)+1<(l.length:Int):=o_
        have i3:(0:Int)≤(j:Int)+1:=o_
        have hd:decide ((0:Int)<(j:Int)+1)=true:=by rw [decide_eq_true_eq];omega
        go_wp2_with (first | (go_at_call 160;with_reducible refine up_ (HI0.out _) hB fun wk hB=>?_;obtain ⟨⟨p0,p1⟩,q0⟩:=HK.out _ hB) | (go_at_call 160;with_reducible refine up_ (HI1.out _) hB fun wk hB=>?_;obtain ⟨⟨p0,p1⟩,q0⟩:=HK.out _ hB))
        by_cases h1:X≤X2
        ·have hf:=HS1.out 9 (HN1.out h1) d_
         subst hf;go_quiet (fail);go_wp2;go_ret;exact ⟨rfl,HBr.out.trans ((q18 hB nq).mono HBr.out.size)⟩
        ·have HN3:=hj_ (HN2.out o_)
         clear HN1 HN2;go_quiet (fail);go_wp2
         go_roundw
         case rel=>exact ⟨j+1+1,o_,by go_num,HN3.out,HBr.out.trans ((q18 hB nq).mono HBr.out.size)⟩
         case measure=>simp [intOf];omega
      ·have dy:=decide_eq_false hy
       have hf:=HS1.out 2 (HP1.out (fun h=>hy h.2)) d_
       rw [dx] at HI0;rw [dy] at HI1;subst hf;clear HP1 HP2 HP3 HQ hx hy dx dy;go_wp2_with (first | (go_at_call 160;with_reducible refine up_ (HI0.out _) hB fun wk hB=>?_;obtain ⟨p0,p1⟩:=HK.out _ hB) | (go_at_call 160;with_reducible refine up_ (HI1.out _) hB fun wk hB=>?_;obtain ⟨p0,p1⟩:=HK.out _ hB))
       go_ret;exact ⟨rfl,ht_ HBr.out hB⟩
     ·have dx:=decide_eq_false hx
      have hf:=HS1.out 2 (HP1.out (fun h=>hx h.1)) d_
      rw [dx] at HI0;subst hf;clear HP1 HP2 HP3 HQ hx dx;go_wp2_with (first | (go_at_call 160;with_reducible refine up_ (HI0.out _) hB fun wk hB=>?_;obtain ⟨p0,p1⟩:=HK.out _ hB) | (go_at_call 160;with_reducible refine up_ (HI1.out _) hB fun wk hB=>?_;obtain ⟨p0,p1⟩:=HK.out _ hB))
      go_ret;exact ⟨rfl,ht_ HBr.out hB⟩
    ·have hs0:=qop HC.out hlt
     obtain rfl:k=l.length:=o_
     have hf:=HS2.out hs0;have hB:=Below.refl wr.heap.size wr;have hbw:b<wr.heap.size:=Nat.lt_of_lt_of_le hbl hBr.size;have hp:=qiz hbl (HCell.out 0 o_) hBr
     have hq:=qiz hbl (HCell.out (l.length-1) o_) hBr
     simp only [Nat.zero_mul,Nat.add_zero] at hp;generalize (l[0]'o_).1=X at *
     generalize (l[0]'o_).2=Y at *
     generalize (l[l.length-1]'o_).1=X2 at *
     generalize (l[l.length-1]'o_).2=Y2 at *
     have w1:IntKind.i64.wrap ((l.length:Int)-1)=(l.length:Int)-1:=IntWalk.i64_in _ o_
     have w2:((l.length:Int)-1).toNat=l.length-1:=o_
     have i0:(0:Int)<(l.length:Int):=o_
     have i1:(0:Int)≤(l.length:Int)-1:=o_
     have i2:(l.length:Int)-1<(l.length:Int):=o_
     obtain ⟨p0,p1⟩:=hp;obtain ⟨q0,q1⟩:=hq;clear HC hBr HS1 HS2 hs0
     by_cases hx:X=0
     ·by_cases hy:X2=65535
      ·subst hx hy
       rw [if_neg s_] at hf
       subst hf;go_wp2;go_ret;exact ⟨rfl,ht_ HBr.out hB⟩
      ·subst hx
       rw [if_pos (.inr hy)] at hf;subst hf;have g1:(X2 == 65535)=false:=by simpa using hy
       have g2:(X2 != 65535)=true:=by simpa using hy
       go_wp2;go_ret;exact ⟨rfl,ht_ HBr.out hB⟩
     ·rw [if_pos (.inl hx)] at hf
      subst hf;have g1:(X == 0)=false:=by simpa using hx
      have g2:(X != 0)=true:=by simpa using hx
      go_wp2;go_ret;exact ⟨rfl,ht_ HBr.out hB⟩
def qqw:List PT:=[(0,0),(65535,65535)]
theorem qki (A:Option Addr) (n c:Nat) (w:World):Rt 99 #[.slice A n c] w (.bool (decide (n≤40))):=by
 have hB:=Below.refl w.heap.size w
 by_cases h:n≤40
 ·rw [decide_eq_true h]
  have g1:decide ((n:Int)≤40)=true:=by rw [decide_eq_true_eq];omega
  go_enter func99,ntmps99
  go_wp2;go_ret;exact ⟨qly s_,hB⟩
 ·rw [decide_eq_false h]
  have g1:decide ((n:Int)≤40)=false:=by rw [decide_eq_false_iff_not];omega
  go_enter func99,ntmps99
  go_wp2;go_ret;exact ⟨qly s_,hB⟩
theorem OkC.lt_at (h:OkC c) (hij:i<j) (hj:j<c.length):(c[i]'o_).1<c[j].1:=by
 obtain ⟨j,rfl⟩:∃ k,j=k+1:=⟨j-1,o_⟩
 exact Int.lt_of_le_of_lt (h.mono_at (i:=i) (j:=j) o_ o_) (qyc hj h.up)
theorem qth (w:World) (x y x2 y2:Int) (W:World) (hW:((w.alloc (.cells #[.int .i64 x,.int .i64 y] 211)).alloc (.cells #[.int .i64 x2,.int .i64 y2] 211)).drew=W) :
  Below w.heap.size w W∧∀ w',Below W.heap.size W w'→(w'.cell? ⟨w.heap.size,0,none⟩=some (.int .i64 x)∧w'.cell? ⟨w.heap.size,1,none⟩=some (.int .i64 y))∧(w'.cell? ⟨w.heap.size+1,0,none⟩=some (.int .i64 x2)∧w'.cell? ⟨w.heap.size+1,1,none⟩=some (.int .i64 y2)):=by
 have hb1:Below w.heap.size w (w.alloc (.cells #[.int .i64 x,.int .i64 y] 211)):=(Below.refl _ w).alloc lr_ _;have hs:W.heap.size=w.heap.size+1+1:=by rw [← hW];simp [World.drew]
 have k1:W.cell? ⟨w.heap.size,0,none⟩=some (.int .i64 x)∧W.cell? ⟨w.heap.size,1,none⟩=some (.int .i64 y):=by
  have hk:=(Below.refl (w.alloc (.cells #[.int .i64 x,.int .i64 y] 211)).heap.size (w.alloc (.cells #[.int .i64 x,.int .i64 y] 211))).alloc lr_ (.cells #[.int .i64 x2,.int .i64 y2] 211);rw [← hW];exact qj0 s_ (qiy w x y 211) hk.drew
 have k2:W.cell? ⟨w.heap.size+1,0,none⟩=some (.int .i64 x2)∧W.cell? ⟨w.heap.size+1,1,none⟩=some (.int .i64 y2):=by
  rw [← hW];show (World.alloc _ _).cell? _=_∧(World.alloc _ _).cell? _=_
  rw [World.cell?_alloc_at _ _ _ _ s_,World.cell?_alloc_at _ _ _ _ s_]
  exact ⟨rfl,rfl⟩
 refine ⟨by rw [← hW];exact (hb1.alloc hb1.size _).drew,fun w' h=>⟨qj0 o_ k1 h,qj0 o_ k2 h⟩⟩
theorem OkC.first_up (h:OkC c) (hr:InL r):∃ m,∃ _:m<c.length,(∀ t (ht:t<c.length),t<m→((c[t].1:Int):Rat)<r)∧(∀ t (ht:t<c.length),m≤t→r≤((c[t].1:Int):Rat)):=by
 obtain ⟨i,hi,h2,h3,-,hs⟩:=h.seg hr.1 hr.2
 by_cases h4:r≤(((c[i]'o_).1:Int):Rat)
 ·refine ⟨i,o_,fun t ht hlt=>?_,fun t ht hle=>?_⟩
  ·have:=q26.2 (h.lt_at hlt (show i<c.length by omega))
   grind
  ·have:=q24.2 (h.mono_at hle ht)
   grind
 ·refine ⟨i+1,hi,fun t ht hlt=>?_,fun t ht hle=>?_⟩
  ·have:=q24.2 (h.mono_at (i:=t) (j:=i) o_ o_)
   have:=Rat.not_le.1 h4
   grind
  ·have:=q24.2 (h.mono_at hle ht)
   grind
end Go.Proofs.YtabhjdmmfdfpeaaGreatDoor
