/- Lemmas. -/
import Derived.Test.YtabhjdmmfdfpeaaGreatDoorKProJ
import Derived.Test.YtabhjdmmfdfpeaaGreatDoorKProE
namespace Go.Proofs.YtabhjdmmfdfpeaaGreatDoor
set_option maxHeartbeats 32000000
open _root_.Go.Proofs.Tryz
open Go.RowKit
variable {w:World}
theorem pbox (s:ByteArray) (ft wa:Int) (A:Option Addr) (n c:Nat) (w W:World) (hW:W=w.alloc (.cells #[.string s,.int .i64 ft,.int .i64 wa,.slice A n c] 87)) :
  Below w.heap.size w W∧∀ w',Below W.heap.size W w'→w'.cell? ⟨w.heap.size,0,none⟩=some (.string s)∧w'.cell? ⟨w.heap.size,1,none⟩=some (.int .i64 ft)∧w'.cell? ⟨w.heap.size,2,none⟩=some (.int .i64 wa)∧w'.cell? ⟨w.heap.size,3,none⟩=some (.slice A n c):=by
 have hb:Below w.heap.size w W:=by rw [hW];exact (Below.refl _ w).alloc lr_ _
 have hs:w.heap.size<W.heap.size:=by rw [hW];simp
 refine ⟨hb,fun w' h=>?_⟩
 have key:∀ j u,(#[Value.string s,.int .i64 ft,.int .i64 wa,.slice A n c]:Array Value)[j]? = some u→w'.cell? ⟨w.heap.size,j,none⟩=some u:=fun j u hu=>by
  refine (h.cell (p:=⟨w.heap.size,j,none⟩) hs).trans ?_;rw [hW,World.cell?_alloc_new];exact hu
 exact ⟨key 0 _ rfl,key 1 _ rfl,key 2 _ rfl,key 3 _ rfl⟩
theorem qgx (P:Nat) (s:ByteArray) (w:World) (c0:w.cell? ⟨P,0,none⟩=some (.string s)) :
  Rt 151 #[.pointer (some ⟨P,0,none⟩)] w (.bool (!nmB s)):=by
 have hB:=Below.refl w.heap.size w;have HN:=hj_ (fun w=>qi2 s w)
 generalize nmB s=q at *
 go_enter func151,ntmps151
 go_wp2_with fail;refine uq_ (HN.out _) hB fun wk hB=>?_;go_wp2_with fail;go_ret;exact ⟨rfl,hB⟩
theorem qgy (P:Nat) (ft:Int) (w:World) (c1:w.cell? ⟨P,1,none⟩=some (.int .i64 ft)) :
  Rt 153 #[.pointer (some ⟨P,0,none⟩)] w (.bool (decide (ft<1∨512<ft))):=by
 have hB:=Below.refl w.heap.size w;rw [show decide (ft<1∨512<ft)=(decide (ft<1) || decide (512<ft)) by simp]
 by_cases h1:ft<1
 ·rw [decide_eq_true h1]
  go_enter func153,ntmps153
  go_wp2_with fail
  try (go_quiet (fail);go_wp2)
  go_ret;exact ⟨ret_b s_,bz_⟩
 ·have hd:=decide_eq_false h1
  rw [hd]
  go_enter func153,ntmps153
  go_wp2_with fail
  try (go_quiet (fail);go_wp2)
  go_ret;exact ⟨ret_b s_,bz_⟩
theorem qgz (P:Nat) (wa:Int) (w:World) (c2:w.cell? ⟨P,2,none⟩=some (.int .i64 wa)) :
  Rt 154 #[.pointer (some ⟨P,0,none⟩)] w (.bool (decide (wa<0∨1048576<wa))):=by
 have hB:=Below.refl w.heap.size w;rw [show decide (wa<0∨1048576<wa)=(decide (wa<0) || decide (1048576<wa)) by simp]
 by_cases h1:wa<0
 ·rw [decide_eq_true h1]
  go_enter func154,ntmps154
  go_wp2_with fail
  try (go_quiet (fail);go_wp2)
  go_ret;exact ⟨ret_b s_,bz_⟩
 ·have hd:=decide_eq_false h1
  rw [hd]
  go_enter func154,ntmps154
  go_wp2_with fail
  try (go_quiet (fail);go_wp2)
  go_ret;exact ⟨ret_b s_,bz_⟩
theorem qh0 (P:Nat) (A:Option Addr) (n c:Nat) (w:World) (c3:w.cell? ⟨P,3,none⟩=some (.slice A n c)) :
  Rt 155 #[.pointer (some ⟨P,0,none⟩)] w (.bool (decide (16<(n:Int)))):=by
 have hB:=Below.refl w.heap.size w
 go_enter func155,ntmps155
 go_wp2_with fail;go_ret;exact ⟨rfl,hB⟩
def InP (w:World) (A:Option Addr) (n:Nat) (H:List FC) (l:List Fea):Prop:=InF w A n H l∧n≤9223372036854775806∧∀ i (h:i<H.length) (h':i<l.length),FW w H[i] l[i].wh
theorem InP.below {w':World} {A:Option Addr} {n:Nat} {H:List FC} {l:List Fea} (h:InP w A n H l) (hb:Below w.heap.size w w'):InP w' A n H l :=
 ⟨h.1.below hb,h.2.1,fun i h1 h2=>(h.2.2 i h1 h2).below hb⟩
theorem qit (s:ByteArray) (ft wa:Int) (l:List Fea) (L:List (List PT)):profE s ft wa l L=if errA L≠0 then errA L else if firstB [(!nmB s,8),(decide (ft<1∨512<ft),2),(decide (wa<0∨1048576<wa),2),(decide (16<(l.length:Int)),5)]≠0 then firstB [(!nmB s,8),(decide (ft<1∨512<ft),2),(decide (wa<0∨1048576<wa),2),(decide (16<(l.length:Int)),5)] else firstE (feaE l ft L.length) l.length:=by
 unfold profE
 by_cases h0:errA L≠0
 ·rw [if_pos h0,if_pos h0]
 rw [if_neg h0,if_neg h0]
 cases h1:nmB s with
 | false=>simp [firstB]
 | true =>
  rw [if_neg s_]
  by_cases h2:ft<1∨512<ft
  ·rw [if_pos o_];simp only [firstB,decide_eq_true h2];rfl
  by_cases h3:wa<0∨1048576<wa
  ·rw [if_pos o_];simp only [firstB,decide_eq_false h2,decide_eq_true h3];rfl
  rw [if_neg o_]
  by_cases h4:16<l.length
  ·rw [if_pos h4];simp only [firstB,decide_eq_false h2,decide_eq_false h3,decide_eq_true (show 16<(l.length:Int) by omega)];rfl
  ·rw [if_neg h4];simp only [firstB,decide_eq_false h2,decide_eq_false h3,decide_eq_false (show ¬ 16<(l.length:Int) by omega)];rfl
set_option maxRecDepth 100000 in
theorem qfz (s:ByteArray) (ft wa:Int) (A:Option Addr) (n c:Nat) (H:List FC) (l:List Fea) (A':Option Addr) (n' c':Nat) (H':List Hd) (L:List (List PT)) (w:World) (hp:InP w A n H l) (hl:InN w A' n' H' L) (hm:∀ h ∈ H',h.n≤9223372036854775807) :
  Rt 108 #[.agg #[.string s,.int .i64 ft,.int .i64 wa,.slice A n c],.slice A' n' c'] w (.int .i64 (profE s ft wa l L)):=by
 have hnl:(n:Int)=(l.length:Int):=by have:=hp.1.1.1;have:=hp.1.2.1;omega
 have hn':L.length=n':=by have:=hl.1.1;have:=hl.2.1;omega
 have HCu:=hj_ (fun w hl=>qh5 A' n' c' H' L w hl hm)
 have HFe:=hj_ (fun w (h:InP w A n H l)=>qhf s ft wa A n c H l n' w h.1 h.2.1 h.2.2)
 have hr:=qit s ft wa l L;rw [hn'] at hr;obtain ⟨E,hE⟩:=xe_ (profE s ft wa l L);rw [hE] at hr ⊢;obtain ⟨W,hW⟩:=ex_ (w.alloc (.cells #[.string s,.int .i64 ft,.int .i64 wa,.slice A n c] 87));obtain ⟨hB0,hK⟩:=pbox s ft wa A n c w W hW;have HK:=hj_ hK;have HW:=hj_ hW;have HB0:=hj_ hB0;have hB:=Below.refl W.heap.size W;obtain ⟨c0,c1,c2,c3⟩:=hK W hB;have hsW:W.heap.size=w.heap.size+1:=by rw [hW];simp
 clear hW hB0 hK;have HF:=hj_ (qhh [⟨151,#[.pointer (some ⟨w.heap.size,0,none⟩)],8,!nmB s⟩,⟨153,#[.pointer (some ⟨w.heap.size,0,none⟩)],2,decide (ft<1∨512<ft)⟩,⟨154,#[.pointer (some ⟨w.heap.size,0,none⟩)],2,decide (wa<0∨1048576<wa)⟩,⟨155,#[.pointer (some ⟨w.heap.size,0,none⟩)],5,decide (16<(n:Int))⟩] 4);rw [q8a] at HF;replace HF:=hj_ (fun wk (hB:Below W.heap.size W wk)=>HF.out wk rfl d_
  (fun i h args w=>by
   match i,h with
   | 0,_=>exact enters_of func151 k_ rfl args w
   | 1,_=>exact enters_of func153 k_ rfl args w
   | 2,_=>exact enters_of func154 k_ rfl args w
   | 3,_=>exact enters_of func155 k_ rfl args w)
  (fun i h W' _ hb'=>by
   obtain ⟨c0,c1,c2,c3⟩:=HK.out W' (ht_ hB hb')
   match i,h with
   | 0,_=>exact qgx _ s W' c0
   | 1,_=>exact qgy _ ft W' c1
   | 2,_=>exact qgz _ wa W' c2
   | 3,_=>exact qh0 _ A n c W' c3))
 rw [← hnl] at hr;have HP:=hj_ (hp.below HB0.out);have HL:=hj_ (hl.below HB0.out);replace HF:=hj_ (show ∀ wk,Below W.heap.size W wk→Calls prog 150 #[.slice (some ⟨wk.heap.size,0,none⟩) 4 4] (wk.alloc (.cells #[.func (.func 151) #[] #[.pointer (some ⟨w.heap.size,0,none⟩)],.int .i64 8,.func (.func 153) #[] #[.pointer (some ⟨w.heap.size,0,none⟩)],.int .i64 2,.func (.func 154) #[] #[.pointer (some ⟨w.heap.size,0,none⟩)],.int .i64 2,.func (.func 155) #[] #[.pointer (some ⟨w.heap.size,0,none⟩)],.int .i64 5] 215)) fun e w'=>e=.returned (.int .i64 (firstB [(!nmB s,8),(decide (ft<1∨512<ft),2),(decide (wa<0∨1048576<wa),2),(decide (16<(n:Int)),5)]))∧Below wk.heap.size wk w' from HF.out)
 generalize firstB [(!nmB s,8),(decide (ft<1∨512<ft),2),(decide (wa<0∨1048576<wa),2),(decide (16<(n:Int)),5)]=q at *;generalize errA L=u at *;generalize firstE (feaE l ft n') l.length=v at *;clear hp hl hm hE hn' hnl hsW
 by_cases hu:u=0
 case neg =>
  rw [if_pos hu] at hr;subst hr;have g1:(E == 0)=false:=by simpa using hu
  have g2:(E != 0)=true:=by simpa using hu
  go_enter func108,ntmps108
  go_wp2_with fail;rw [← HW.out];refine uq_ (HCu.out _ (HL.out.below hB)) hB fun wk hB=>?_;go_wp2_with fail;go_ret;exact ⟨rfl,ht_ HB0.out hB⟩
 case pos =>
  subst hu;rw [if_neg (fun h=>h rfl)] at hr
  by_cases hq:q=0
  case neg =>
   rw [if_pos hq] at hr;subst hr;have g1:(E == 0)=false:=by simpa using hq
   have g2:(E != 0)=true:=by simpa using hq
   go_enter func108,ntmps108
   go_wp2_with fail;rw [← HW.out];refine uq_ (HCu.out _ (HL.out.below hB)) hB fun wk hB=>?_;go_wp2_with fail;refine uq_ (HF.out _ hB) hB fun wk hB=>?_;go_wp2_with fail;go_ret;exact ⟨rfl,ht_ HB0.out hB⟩
  case pos =>
   subst hq;rw [if_neg (fun h=>h rfl)] at hr
   subst hr
   go_enter func108,ntmps108
   go_wp2_with fail;rw [← HW.out];refine uq_ (HCu.out _ (HL.out.below hB)) hB fun wk hB=>?_;go_wp2_with fail;refine uq_ (HF.out _ hB) hB fun wk hB=>?_;obtain ⟨c0,c1,c2,c3⟩:=HK.out _ hB;go_wp2_with fail;refine uq_ (HFe.out _ (HP.out.below hB)) hB fun wk hB=>?_;go_wp2_with fail;go_ret;exact ⟨rfl,ht_ HB0.out hB⟩
theorem q0fg (g:Nat) (cb:Array Value) (p:FC→Bool) (A:Option Addr) (n c:Nat) (l:List FC) (w:World) (eg:∀ args w,(callFunc g args).run prog w=.ok (.enter g args) w) (hl:shF.In w A n l) (hn:n≤9223372036854775807)
  (hf:∀ i (h:i<l.length) (W:World),Below w.heap.size w W→Calls prog g (#[l[i].val] ++ cb) W fun e w'=>e=.returned (.bool (p l[i]))∧Below W.heap.size W w') :
  Rt 101 #[.slice A n c,.func (.func g) #[] cb] w (.int .i64 (idxOf p l)):=by
 obtain ⟨rfl,_⟩:=id hl;have HL:=hj_ hl;have HF:=hj_ hf;have hB:=Below.refl w.heap.size w;obtain ⟨E,hE⟩:=ex_ (idxOf p l);rw [← hE];have HE:=hj_ hE;clear hl hf hE
 go_enter func101,ntmps101
 go_wp2_with fail
 go_loopw [8] (fun iv wr=>∃ k:Nat,k≤l.length∧iv=.int .i64 k∧(∀ j (h:j<l.length),j<k→p l[j]=false)∧Below w.heap.size w wr) (fun iv _=>l.length-(intOf iv).toNat)
 case atStart=>exact ⟨0,Nat.zero_le _,rfl,fun j _ h=>absurd h (Nat.not_lt_zero _),br_⟩
 case round =>
  obtain ⟨k,hk,rfl,hall,hBr⟩:=hrel;have HAll:=hj_ hall;clear hall
  by_cases hlt:k<l.length
  ·obtain ⟨b,o,rfl,hbl,hcell⟩:=ft_at HL.out o_
   have hk2:=hcell k hlt;have kk:=fun (q:Nat)=>hBr.cell (p:=⟨b,q,none⟩) hbl
   have hbw:b<wr.heap.size:=Nat.lt_of_lt_of_le hbl hBr.size;have hc:=HF.out k hlt wr hBr;have HY:=hj_ (show p l[k]=true→E=k from fun h=>HE.out.trans (qbd hlt (fun i hi=>HAll.out i o_ hi) h))
   have HN:=hj_ (show p l[k]=false→∀ j (h:j<l.length),j<k+1→p l[j]=false from fun h j hj hjk=>by
    rcases Nat.lt_or_eq_of_le (Nat.le_of_lt_succ hjk) with h1 | h1
    ·exact HAll.out j hj h1
    ·subst h1;exact h)
   clear hcell;have i0:(0:Int)≤(k:Int):=o_
   have i1:(k:Int)<(l.length:Int):=o_
   have HBr:=hj_ hBr;clear hBr;generalize l[k]=f at *;generalize hpf:p f=pf at *;obtain ⟨at_,bits,co,fi,cu,ho,lo,hi,sn,A,n,c⟩:=f
   obtain ⟨k0,k1,k2,k3,k4,k5,k6,k7,k8,k9⟩:=hk2;have p0:=(kk _).trans k0;have p1:=(kk _).trans k1;have p2:=(kk _).trans k2;have p3:=(kk _).trans k3;have p4:=(kk _).trans k4;have p5:=(kk _).trans k5;have p6:=(kk _).trans k6;have p7:=(kk _).trans k7;have p8:=(kk _).trans k8;have p9:=(kk _).trans k9;clear k0 k1 k2 k3 k4 k5 k6 k7 k8 k9 kk hpf;dsimp only at p0 p1 p2 p3 p4 p5 p6 p7 p8 p9
   cases pf with
   | true =>
    have hee:E=k:=HY.out rfl;subst hee;go_wp2_with (go_at_fn g;refine hc.mono ?_;rintro e w' ⟨rfl,hb⟩;have hB:=ht_ HBr.out hb);go_ret;exact ⟨rfl,hB⟩
   | false =>
    have HN1:=hj_ (HN.out rfl);go_wp2_with (go_at_fn g;refine hc.mono ?_;rintro e w' ⟨rfl,hb⟩;have hB:=ht_ HBr.out hb)
    go_roundw
    case rel=>exact ⟨k+1,o_,by go_num,HN1.out,hB⟩
    case measure=>simp [intOf];omega
  ·obtain rfl:k=l.length:=by omega
   have hE0:E=-1:=HE.out.trans (qbc fun i h=>HAll.out i h h)
   subst hE0;go_wp2_with fail;go_ret;exact ⟨rfl,hBr⟩
def atI (H:List FC) (attr:Int):Int:=idxOf (fun f=>decide (f.at_=attr)) H
theorem qkx (A:Option Addr) (n c:Nat) (H:List FC) (attr:Int) (w:World) (hl:shF.In w A n H) (hn:n≤9223372036854775806) :
  Rt 161 #[.slice A n c,.int .i64 attr] w (.int .i64 (atI H attr)):=by
 obtain ⟨rfl,_⟩:=id hl;have HL:=hj_ hl;obtain ⟨E,hE⟩:=ex_ (atI H attr);rw [← hE];have HE:=hj_ hE;clear hl hE
 go_enter func161,ntmps161
 go_wp2_with fail
 go_loopw [5] (fun iv wr=>∃ k:Nat,k≤H.length∧iv=.int .i64 k∧(∀ j (h:j<H.length),j<k→decide (H[j].at_=attr)=false)∧Below w.heap.size w wr) (fun iv _=>H.length-(intOf iv).toNat)
 case atStart=>exact ⟨0,Nat.zero_le _,rfl,fun j _ h=>absurd h (Nat.not_lt_zero _),br_⟩
 case round =>
  obtain ⟨k,hk,rfl,hall,hBr⟩:=hrel;have HAll:=hj_ hall;clear hall
  by_cases hlt:k<H.length
  ·obtain ⟨b,o,rfl,hbl,hcell⟩:=ft_at HL.out o_
   have p0:=(hBr.cell (p:=⟨b,o+k*10,none⟩) hbl).trans (hcell k hlt).1;have hbw:b<wr.heap.size:=Nat.lt_of_lt_of_le hbl hBr.size;have HY:=hj_ (show decide (H[k].at_=attr)=true→E=k from fun h=>HE.out.trans (qbd hlt (fun i hi=>HAll.out i o_ hi) h))
   have HN:=hj_ (show decide (H[k].at_=attr)=false→∀ j (h:j<H.length),j<k+1→decide (H[j].at_=attr)=false from fun h j hj hjk=>by
    rcases Nat.lt_or_eq_of_le (Nat.le_of_lt_succ hjk) with h1 | h1
    ·exact HAll.out j hj h1
    ·subst h1;exact h)
   have i0:(0:Int)≤(k:Int):=o_
   have i1:(k:Int)<(H.length:Int):=o_
   have w1:IntKind.i64.wrap ((k:Int)+1)=(k:Int)+1:=IntWalk.i64_in _ o_
   clear hcell;generalize H[k].at_=x at *
   by_cases hx:x=attr
   ·have hee:E=k:=HY.out (decide_eq_true hx)
    subst hee;have g1:(x == attr)=true:=by simpa using hx
    clear hx HY HN;go_wp2_with fail;go_ret;exact ⟨rfl,hBr⟩
   ·have HN1:=hj_ (HN.out (decide_eq_false hx))
    have g1:(x == attr)=false:=by simpa using hx
    clear hx HY HN;go_wp2_with fail
    go_roundw
    case rel=>exact ⟨k+1,o_,by go_num,HN1.out,hBr⟩
    case measure=>simp [intOf];omega
  ·obtain rfl:k=H.length:=by omega
   have hE0:E=-1:=HE.out.trans (qbc fun i h=>HAll.out i h h)
   subst hE0;go_wp2_with fail;go_ret;exact ⟨rfl,hBr⟩
def usedH (H:List FC) (o:Int):Bool:=H.any fun f=>decide (f.co=o) || (decide (f.bits=16) && decide (f.fi=o))
theorem qo1 (A:Option Addr) (n c:Nat) (H:List FC) (o':Int) (w:World) (hl:shF.In w A n H) (hn:n≤9223372036854775806) :
  Rt 162 #[.slice A n c,.int .i64 o'] w (.bool (usedH H o')):=by
 obtain ⟨rfl,_⟩:=id hl;have HL:=hj_ hl;obtain ⟨E,hE⟩:=ex_ (usedH H o');rw [← hE];have HE:=hj_ hE;clear hl hE
 go_enter func162,ntmps162
 go_wp2_with fail
 go_loopw [5] (fun iv wr=>∃ k:Nat,k≤H.length∧iv=.int .i64 k∧(∀ j (h:j<H.length),j<k→(decide (H[j].co=o') || (decide (H[j].bits=16) && decide (H[j].fi=o')))=false)∧Below w.heap.size w wr) (fun iv _=>H.length-(intOf iv).toNat)
 case atStart=>exact ⟨0,Nat.zero_le _,rfl,fun j _ h=>absurd h (Nat.not_lt_zero _),br_⟩
 case round =>
  obtain ⟨k,hk,rfl,hall,hBr⟩:=hrel;have HAll:=hj_ hall;clear hall
  by_cases hlt:k<H.length
  ·obtain ⟨b,o,rfl,hbl,hcell⟩:=ft_at HL.out o_
   obtain ⟨-,k1,k2,k3,-⟩:=hcell k hlt;have p1:=(hBr.cell (p:=⟨b,o+k*10+1,none⟩) hbl).trans k1;have p2:=(hBr.cell (p:=⟨b,o+k*10+2,none⟩) hbl).trans k2;have p3:=(hBr.cell (p:=⟨b,o+k*10+3,none⟩) hbl).trans k3;have hbw:b<wr.heap.size:=Nat.lt_of_lt_of_le hbl hBr.size;have HY:=hj_ (show (decide (H[k].co=o') || (decide (H[k].bits=16) && decide (H[k].fi=o')))=true→E=true from fun h=>HE.out.trans (List.any_eq_true.2 ⟨H[k],List.getElem_mem hlt,h⟩))
   have HN:=hj_ (show (decide (H[k].co=o') || (decide (H[k].bits=16) && decide (H[k].fi=o')))=false→∀ j (h:j<H.length),j<k+1→(decide (H[j].co=o') || (decide (H[j].bits=16) && decide (H[j].fi=o')))=false from fun h j hj hjk=>by
    rcases Nat.lt_or_eq_of_le (Nat.le_of_lt_succ hjk) with h1 | h1
    ·exact HAll.out j hj h1
    ·subst h1;exact h)
   have i0:(0:Int)≤(k:Int):=o_
   have i1:(k:Int)<(H.length:Int):=o_
   have w1:IntKind.i64.wrap ((k:Int)+1)=(k:Int)+1:=IntWalk.i64_in _ o_
   clear hcell k1 k2 k3;generalize H[k].co=x at *;generalize H[k].bits=y at *;generalize H[k].fi=z at *
   by_cases hx:x=o'
   ·have hee:E=true:=HY.out (by rw [decide_eq_true hx];rfl)
    subst hee;have g1:(x == o')=true:=by simpa using hx
    clear hx HY HN;go_wp2_with fail;go_ret;exact ⟨rfl,hBr⟩
   ·have g1:(x == o')=false:=by simpa using hx
    by_cases hy:y=16
    ·have g2:(y == 16)=true:=by simpa using hy
     by_cases hz:z=o'
     ·have hee:E=true:=HY.out (by rw [decide_eq_true hy,decide_eq_true hz];simp)
      subst hee;have g3:(z == o')=true:=by simpa using hz
      clear hx hy hz HY HN;go_wp2_with fail;go_ret;exact ⟨rfl,hBr⟩
     ·have HN1:=hj_ (HN.out (by rw [decide_eq_false hx,decide_eq_false hz];simp))
      have g3:(z == o')=false:=by simpa using hz
      clear hx hy hz HY HN;go_wp2_with fail
      go_roundw
      case rel=>exact ⟨k+1,o_,by go_num,HN1.out,hBr⟩
      case measure=>simp [intOf];omega
    ·have HN1:=hj_ (HN.out (by rw [decide_eq_false hx,decide_eq_false hy];simp))
     have g2:(y == 16)=false:=by simpa using hy
     clear hx hy HY HN;go_wp2_with fail
     go_roundw
     case rel=>exact ⟨k+1,o_,by go_num,HN1.out,hBr⟩
     case measure=>simp [intOf];omega
  ·obtain rfl:k=H.length:=by omega
   have hE0:E=false:=HE.out.trans (List.any_eq_false.2 fun x hx=>by
    obtain ⟨i,hi,rfl⟩:=List.getElem_of_mem hx;rw [HAll.out i hi hi];exact Bool.false_ne_true)
   subst hE0;go_wp2_with fail;go_ret;exact ⟨rfl,hBr⟩
structure PC where
 s:ByteArray
 ft:Int
 wa:Int
 A:Option Addr
 n:Nat
 c:Nat
def shPr:Sh PC:=⟨4,fun p=>[.string p.s,.int .i64 p.ft,.int .i64 p.wa,.slice p.A p.n p.c],fun _=>rfl,fun a=>by simp;exact ⟨rfl,rfl,rfl,rfl⟩⟩
section
open Go.ChangeShapes Go.WideShapes Go.ChangeAt Go.RowKit Go.Deep
def fc0:FC:=⟨0,0,0,0,0,0,0,0,false,none,0,0⟩
def InQ (w:World) (A:Option Addr) (n:Nat) (H:List FC) (l:List Fea):Prop:=InF w A n H l∧∀ i (h:i<H.length) (h':i<l.length),FW w H[i] l[i].wh
def PC.good (w:World) (p:PC):Prop:=p.s.size≤maxLen∧(p.n≤maxLen∧p.n≤p.c∧p.c≤maxLen)∧∃ H l,InQ w p.A p.n H l
theorem q7k {A:Option Addr} {n:Nat}:∀ {H:List FC},shF.In w A n H→(∀ g ∈ H,∃ wl,FW w g wl)→∃ l,InQ w A n H l:=by
 intro H hl hg;have key:∀ K:List FC,(∀ g ∈ K,∃ wl,FW w g wl)→∃ l:List Fea,K.length=l.length∧∀ i (h:i<K.length) (h':i<l.length),l[i]=K[i].fea l[i].wh∧FW w K[i] l[i].wh:=by
  intro K
  induction K with
  | nil=>intro _;exact ⟨[],rfl,fun i h=>absurd h (Nat.not_lt_zero _)⟩
  | cons g K ih =>
   intro h;obtain ⟨wl,h0⟩:=h g (List.mem_cons_self ..);obtain ⟨l,e,h1⟩:=ih (fun g hg=>h g (List.mem_cons_of_mem _ hg))
   refine ⟨g.fea wl :: l,by simp [e],fun i hi hi'=>?_⟩
   match i with
   | 0=>exact ⟨rfl,h0⟩
   | i+1=>exact h1 i (by simpa using hi) (by simpa using hi')
 obtain ⟨l,e,h1⟩:=key H hg;exact ⟨l,⟨hl,e,fun i h h'=>⟨(h1 i h h').1,(h1 i h h').2.1⟩⟩,fun i h h'=>(h1 i h h').2⟩
section
variable {HH:Type} {enc:TypeId × Value→HH} {w:World} {base:Nat} {spare:Nat→Bool} {held:Bool}
theorem q7j {n:Nat} {v:Value} {y:DataW HH × List MemPlace} (h:DataW.trod enc prog w base spare held n 85 [v]=some y):∃ A m c,v=.slice A m c∧(m≤maxLen∧m≤c∧c≤maxLen)∧∃ H l,InQ w A m H l:=by
 have key:∀ A m c,v=.slice A m c→∃ A m c,v=.slice A m c∧(m≤maxLen∧m≤c∧c≤maxLen)∧∃ H l,InQ w A m H l:=fun A m c e=>by
  subst e;obtain ⟨H,hl,hg,hn,_⟩:=qfc shF underlying85 (by kernel_rfl:prog.cellsOf 114=shF.z) d_ fc0 _ (fun _ _ _ h=>q7l h) h
  obtain ⟨l,hl2⟩:=q7k hl (fun g hh=>(hg g hh).1)
  exact ⟨A,m,c,rfl,⟨hn,qfb underlying85 h⟩,H,l,hl2⟩
 rcases open_slice underlying85 h with ⟨h1,_⟩ | ⟨a,len,cap,m,k,D,Pl,hcs,_⟩
 ·simp at h1;exact key _ _ _ h1
 ·simp at hcs;exact key _ _ _ hcs
theorem qir {fuel:Nat} {cs:List Value} {x:DataW HH × List MemPlace} (h:DataW.trod enc prog w base spare held fuel 87 cs=some x):∃ g:PC,cs=shPr.cs g∧g.good w:=by
 obtain ⟨hl,hf⟩:=qt7 (fs:=prog.fieldsOf 87) k_ h
 rw [show prog.cellsOf 87=4 by kernel_rfl] at hl
 rw [show (prog.fieldsOf 87).map (fun f=>(f.type,f.offset))=#[(9,0),(3,1),(3,2),(85,3)] by kernel_rfl] at hf
 obtain ⟨a,b,c,d,rfl⟩:=cells4 hl;obtain ⟨n0,y0,h0⟩:=hf 0 _ _ rfl;obtain ⟨n1,y1,h1⟩:=hf 1 _ _ rfl;obtain ⟨n2,y2,h2⟩:=hf 2 _ _ rfl;obtain ⟨n3,y3,h3⟩:=hf 3 _ _ rfl;rw [show prog.cellsOf 9=1 by kernel_rfl] at h0
 rw [q2d] at h1 h2;rw [show prog.cellsOf 85=1 by kernel_rfl] at h3
 obtain ⟨s,rfl,g0⟩:=qt8 h0;obtain ⟨x1,rfl,g1⟩:=trod_i h1;obtain ⟨x2,rfl,g2⟩:=trod_i h2;obtain ⟨A,m,k,rfl,hm,hh⟩:=q7j h3;exact ⟨⟨s,x1,x2,A,m,k⟩,rfl,g0,hm,hh⟩
end
end
end Go.Proofs.YtabhjdmmfdfpeaaGreatDoor
