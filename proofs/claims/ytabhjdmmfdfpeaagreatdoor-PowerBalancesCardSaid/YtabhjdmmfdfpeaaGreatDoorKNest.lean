/- Lemmas. -/
import Derived.Test.YtabhjdmmfdfpeaaGreatDoorKCurveC
import Derived.Test.YtabhjdmmfdfpeaaGreatDoorKOpen
namespace Go.Proofs.YtabhjdmmfdfpeaaGreatDoor
set_option maxHeartbeats 32000000
set_option maxRecDepth 100000
open _root_.Go.Proofs.Tryz
open Go.RowKit
variable {w:World}
structure Hd where
 A:Option Addr
 n:Nat
 c:Nat
def shH:Sh Hd:=⟨1,fun h=>[.slice h.A h.n h.c],fun _=>rfl,fun a=>by simp;rfl⟩
def InN (w:World) (A:Option Addr) (n:Nat) (H:List Hd) (L:List (List PT)):Prop :=
 shH.In w A n H∧H.length=L.length∧∀ i (h:i<H.length) (h':i<L.length),shP.In w H[i].A H[i].n L[i]
theorem InN.below {w':World} {A:Option Addr} {n:Nat} {H:List Hd} {L:List (List PT)} (h:InN w A n H L) (hb:Below w.heap.size w w'):InN w' A n H L :=
 ⟨h.1.below hb,h.2.1,fun i h1 h2=>(h.2.2 i h1 h2).below hb⟩
theorem hd_at {A:Option Addr} {n:Nat} {l:List Hd} (h:shH.In w A n l) (h0:0<l.length) :
  ∃ b o,A=some ⟨b,o,none⟩∧b<w.heap.size∧∀ k (hk:k<l.length),w.cell? ⟨b,o+k,none⟩=some (.slice l[k].A l[k].n l[k].c):=by
 obtain ⟨b,o,e,hb,hc⟩:=h.at_ h0
 exact ⟨b,o,e,hb,fun k hk=>by have:=hc k hk 0 _ d_ rfl;rw [show o+k*shH.z+0=o+k from by show o+k*1+0=o+k;omega] at this;exact this⟩
def fewAll (L:List (List PT)):Bool:=decide (L.length≤40) && L.all fun c=>decide (c.length≤40)
theorem qkj (A:Option Addr) (n c:Nat) (H:List Hd) (L:List (List PT)) (w:World) (hl:InN w A n H L) (hn:n≤9223372036854775807) :
  Rt 56 #[.slice A n c] w (.bool (fewAll L)):=by
 obtain ⟨rfl,_⟩:=id hl.1;have HL:=hj_ hl;have HLen:=hj_ hl.2.1;have hB:=Below.refl w.heap.size w;obtain ⟨E,hE⟩:=ex_ (fewAll L);rw [← hE];have HE:=hj_ hE;clear hl hE
 go_enter func56,ntmps56
 go_wp2_with fail
 go_loopw [3] (fun iv wr=>∃ k:Nat,k≤H.length∧k≤40∧iv=.int .i64 k∧(∀ i (h:i<L.length),i<k→L[i].length≤40)∧Below w.heap.size w wr) (fun iv _=>H.length-(intOf iv).toNat)
 case atStart=>exact ⟨0,Nat.zero_le _,Nat.zero_le _,rfl,fun i _ h=>absurd h (Nat.not_lt_zero _),br_⟩
 case round =>
  obtain ⟨k,hk,hk4,rfl,hall,hBr⟩:=hrel;have HAll:=hj_ hall;clear hall
  by_cases hlt:k<H.length
  ·by_cases h40:k<40
   ·obtain ⟨b,o,rfl,hbl,hcell⟩:=hd_at HL.out.1 o_
    have hp:=hcell k hlt;have hq:=HL.out.2.2 k hlt (by rw [← HLen.out];exact hlt)
    have hp:=(hBr.cell (p:=⟨b,o+k,none⟩) hbl).trans hp;obtain ⟨hq1,-⟩:=hq;have hbw:b<wr.heap.size:=Nat.lt_of_lt_of_le hbl hBr.size;have HN:=hj_ (show ∀ e,decide (H[k].n≤40)=e→(e=false→fewAll L=false)∧(e=true→∀ i (h:i<L.length),i<k+1→L[i].length≤40) from fun e he=>by
     refine ⟨fun h=>?_,fun h i hi hik=>?_⟩
     ·subst h
      rw [decide_eq_false_iff_not] at he;unfold fewAll;rw [Bool.and_eq_false_iff]
      right
      rw [List.all_eq_false];exact ⟨L[k]'(by rw [← HLen.out];exact hlt),List.getElem_mem _,by rw [← hq1];simpa using he⟩
     ·subst h
      rw [decide_eq_true_eq] at he
      rcases Nat.lt_or_eq_of_le (Nat.le_of_lt_succ hik) with h | h
      ·exact HAll.out i hi h
      ·subst h;rw [← hq1];exact he)
    have HF:=hj_ (fun w=>qki H[k].A H[k].n H[k].c w)
    generalize H[k].A=a at *;generalize H[k].n=m at *;generalize H[k].c=d at *;have HBr:=hj_ hBr;have hB:=Below.refl wr.heap.size wr;have i1:(k:Int)<(H.length:Int):=o_
    have i2:(k:Int)<40:=o_
    have i3:(0:Int)≤(k:Int):=o_
    clear hcell hq1 hBr
    by_cases hm:m≤40
    ·rw [decide_eq_true hm] at HF
     have HN2:=hj_ ((HN.out _ (decide_eq_true hm)).2 rfl);clear HN hm;go_wp2_with fail;refine up_ (HF.out _) hB fun wk hB=>?_;go_wp2_with fail
     go_roundw
     case rel=>exact ⟨k+1,o_,o_,by go_num,HN2.out,ht_ HBr.out hB⟩
     case measure=>simp [intOf];omega
    ·rw [decide_eq_false hm] at HF
     have HN2:=hj_ ((HN.out _ (decide_eq_false hm)).1 rfl);have hf:E=false:=HE.out.trans HN2.out;subst hf;clear HN hm;go_wp2_with fail;refine up_ (HF.out _) hB fun wk hB=>?_;go_wp2_with fail;go_ret;exact ⟨rfl,ht_ HBr.out hB⟩
   ·obtain rfl:k=40:=by omega
    have e:fewAll L=false:=by unfold fewAll;rw [decide_eq_false (by rw [← HLen.out];omega)];rfl
    have hf:E=false:=HE.out.trans e;subst hf;clear e;have i1:(40:Int)<(H.length:Int):=o_
    have i2:¬ (H.length:Int)≤40:=o_
    have i4:¬ H.length≤40:=o_
    have i3:decide ((H.length:Int)≤40)=false:=decide_eq_false i2;go_wp2_with fail;go_ret;exact ⟨s_,hBr⟩
  ·obtain rfl:k=H.length:=by omega
   have e:fewAll L=true:=by
    unfold fewAll;rw [decide_eq_true (by rw [← HLen.out];exact hk4),Bool.true_and,List.all_eq_true]
    intro x hx;obtain ⟨i,hi,rfl⟩:=List.getElem_of_mem hx;exact decide_eq_true (HAll.out i hi (by rw [HLen.out];exact hi))
   have hf:E=true:=HE.out.trans e;subst hf;clear e;have i2:(H.length:Int)≤40:=o_
   have i3:decide ((H.length:Int)≤40)=true:=decide_eq_true i2;go_wp2_with fail;go_ret;exact ⟨s_,hBr⟩
theorem qkg (A:Option Addr) (n c:Nat) (H:List Hd) (L:List (List PT)) (w:World) (hl:InN w A n H L) (hm:∀ h ∈ H,h.n≤9223372036854775807) (hn:n≤9223372036854775807) :
  Rt 67 #[.slice A n c] w (.int .i64 (errA L)):=by
 obtain ⟨rfl,_⟩:=id hl.1;have HL:=hj_ hl;have HLen:=hj_ hl.2.1;have HM:=hj_ hm;have hB:=Below.refl w.heap.size w
 by_cases h16:16<H.length
 ·have e:errA L=5:=by unfold errA;rw [if_pos (by rw [← HLen.out];exact h16)]
  rw [e];have i1:(16:Int)<(H.length:Int):=o_
  clear hl hm e
  go_enter func67,ntmps67
  go_wp2_with fail;go_ret;exact ⟨rfl,hB⟩
 ·obtain ⟨E,hE⟩:=ex_ (errA L)
  have e:errA L=allE L:=by unfold errA;rw [if_neg (by rw [← HLen.out];exact h16)]
  rw [← hE];rw [e] at hE;have HE:=hj_ hE;have i1:¬ (16:Int)<(H.length:Int):=o_
  clear hl hm e hE
  go_enter func67,ntmps67
  go_wp2_with fail
  go_loopw [3] (fun iv wr=>∃ k:Nat,k≤H.length∧iv=.int .i64 k∧allE (L.drop k)=allE L∧Below w.heap.size w wr) (fun iv _=>H.length-(intOf iv).toNat)
  case atStart=>exact ⟨0,Nat.zero_le _,rfl,rfl,br_⟩
  case round =>
   obtain ⟨k,hk,rfl,hall,hBr⟩:=hrel;have HAll:=hj_ hall;clear hall
   by_cases hlt:k<H.length
   ·obtain ⟨b,o,rfl,hbl,hcell⟩:=hd_at HL.out.1 o_
    have hp:=hcell k hlt;have hk2:k<L.length:=by rw [← HLen.out];exact hlt
    have hq:=HL.out.2.2 k hlt hk2;have hp:=(hBr.cell (p:=⟨b,o+k,none⟩) hbl).trans hp;have hbw:b<wr.heap.size:=Nat.lt_of_lt_of_le hbl hBr.size;obtain ⟨s1,s2⟩:=q0d HAll.out hk2;have HS1:=hj_ s1;have HS2:=hj_ s2;have hm:=HM.out _ (List.getElem_mem hlt);have HC:=hj_ (fun (w:World) (hl:shP.In w H[k].A H[k].n L[k])=>qkh H[k].A H[k].n H[k].c L[k] w hl hm)
    have HQ:=hj_ (hq.below hBr);clear s1 s2 hq hm;generalize H[k].A=a at *;generalize H[k].n=m at *;generalize H[k].c=d at *;generalize chkC L[k]=q at *;generalize L[k]=cu at *;have HBr:=hj_ hBr;have hB:=Below.refl wr.heap.size wr;have i1:(k:Int)<(H.length:Int):=o_
    have i3:(0:Int)≤(k:Int):=o_
    clear hcell hBr hk2
    by_cases hq:q=0
    ·have HN2:=hj_ (HS2.out hq)
     subst hq;clear HS1 HS2;go_wp2_with fail;refine up_ (HC.out _ (HQ.out.below hB)) hB fun wk hB=>?_;go_wp2_with fail
     go_roundw
     case rel=>exact ⟨k+1,o_,by go_num,HN2.out,ht_ HBr.out hB⟩
     case measure=>simp [intOf];omega
    ·have hf:E=q:=HE.out.trans (HS1.out hq)
     subst hf;have g1:(E == 0)=false:=by simpa using hq
     have g2:(E != 0)=true:=by simpa using hq
     clear HS1 HS2 hq;go_wp2_with fail;refine up_ (HC.out _ (HQ.out.below hB)) hB fun wk hB=>?_;go_wp2_with fail;go_ret;exact ⟨rfl,ht_ HBr.out hB⟩
   ·obtain rfl:k=H.length:=by omega
    have hf:E=0:=HE.out.trans (q0b HAll.out (by rw [HLen.out];omega))
    subst hf;go_wp2_with fail;go_ret;exact ⟨rfl,hBr⟩
section
open Go.ChangeShapes Go.WideShapes Go.ChangeAt Go.RowKit Go.Deep
section
variable {HH:Type} {enc:TypeId × Value→HH} {w:World} {base:Nat} {spare:Nat→Bool} {held:Bool}
theorem q40 {fuel:Nat} {cs:List Value} {x:DataW HH × List MemPlace} (h:DataW.trod enc prog w base spare held fuel 156 cs=some x):∃ g:Hd,cs=shH.cs g∧(∃ l,shP.In w g.A g.n l)∧g.n≤maxLen:=by
 rcases open_slice underlying156 h with ⟨h1,_⟩ | ⟨a,len,cap,m,k,D,Pl,hcs,_⟩
 ·subst h1
  obtain ⟨l,hl,_,hn,_⟩:=qfc shP underlying156 (by kernel_rfl:prog.cellsOf 211=shP.z) d_ (0,0) _ (fun _ _ _ h=>qi5 h) h
  exact ⟨⟨_,_,_⟩,rfl,⟨l,hl⟩,hn⟩
 ·subst hcs
  obtain ⟨l,hl,_,hn,_⟩:=qfc shP underlying156 (by kernel_rfl:prog.cellsOf 211=shP.z) d_ (0,0) _ (fun _ _ _ h=>qi5 h) h
  exact ⟨⟨_,_,_⟩,rfl,⟨l,hl⟩,hn⟩
end
theorem q42 {A:Option Addr} {n:Nat}:∀ {H:List Hd},shH.In w A n H→(∀ g ∈ H,(∃ l,shP.In w g.A g.n l)∧g.n≤maxLen)→∃ L,InN w A n H L:=by
 intro H hl hg;have key:∀ K:List Hd,(∀ g ∈ K,∃ l,shP.In w g.A g.n l)→∃ L:List (List PT),K.length=L.length∧∀ i (h:i<K.length) (h':i<L.length),shP.In w K[i].A K[i].n L[i]:=by
  intro K
  induction K with
  | nil=>intro _;exact ⟨[],rfl,fun i h=>absurd h (Nat.not_lt_zero _)⟩
  | cons g K ih =>
   intro h;obtain ⟨l,h0⟩:=h g (List.mem_cons_self ..);obtain ⟨L,e,h1⟩:=ih (fun g hg=>h g (List.mem_cons_of_mem _ hg))
   refine ⟨l :: L,by simp [e],fun i hi hi'=>?_⟩
   match i with
   | 0=>exact h0
   | i+1=>exact h1 i (by simpa using hi) (by simpa using hi')
 obtain ⟨L,e,h1⟩:=key H (fun g h=>(hg g h).1)
 exact ⟨L,hl,e,h1⟩
end
end Go.Proofs.YtabhjdmmfdfpeaaGreatDoor
