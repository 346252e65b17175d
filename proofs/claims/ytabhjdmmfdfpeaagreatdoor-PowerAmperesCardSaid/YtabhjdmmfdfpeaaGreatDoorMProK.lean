/- Lemmas. -/
import Derived.Test.YtabhjdmmfdfpeaaGreatDoorMProJ
namespace Go.Proofs.YtabhjdmmfdfpeaaGreatDoor
set_option maxHeartbeats 32000000
open _root_.Go.Proofs.Tryz

section
open Go.RowKit
theorem pbox (s:ByteArray) (ft wa:Int) (A:Option Addr) (n c:Nat) (w W:World) (hW:W=w.alloc (.cells #[.string s,.int .i64 ft,.int .i64 wa,.slice A n c] 87)) :
  Below w.heap.size w W∧∀ w',Below W.heap.size W w'→w'.cell? ⟨w.heap.size,0,none⟩=some (.string s)∧w'.cell? ⟨w.heap.size,1,none⟩=some (.int .i64 ft)∧w'.cell? ⟨w.heap.size,2,none⟩=some (.int .i64 wa)∧w'.cell? ⟨w.heap.size,3,none⟩=some (.slice A n c):=by
 have hb:Below w.heap.size w W:=by rw [hW];exact (Below.refl _ w).alloc (Nat.le_refl _) _
 have hs:w.heap.size<W.heap.size:=by rw [hW];simp
 refine ⟨hb,fun w' h=>?_⟩
 have key:∀ j u,(#[Value.string s,.int .i64 ft,.int .i64 wa,.slice A n c]:Array Value)[j]? = some u→w'.cell? ⟨w.heap.size,j,none⟩=some u:=fun j u hu=>by
  refine (h.cell (p:=⟨w.heap.size,j,none⟩) hs).trans ?_;rw [hW,World.cell?_alloc_new];exact hu
 exact ⟨key 0 _ rfl,key 1 _ rfl,key 2 _ rfl,key 3 _ rfl⟩
theorem qgx (P:Nat) (s:ByteArray) (w:World) (c0:w.cell? ⟨P,0,none⟩=some (.string s)) :
  Calls prog 151 #[.pointer (some ⟨P,0,none⟩)] w fun e w'=>e=.returned (.bool (!nmB s))∧Below w.heap.size w w':=by
 have hB:=Below.refl w.heap.size w;have HN:=hj_ (fun w=>qi2 s w)
 generalize nmB s=q at *
 go_enter func151,ntmps151
 go_wp2_with fail;refine uq_ (HN.out _) hB ?_;clear hB;intro wk hB;go_wp2_with fail;go_ret;exact ⟨rfl,hB⟩
theorem qgy (P:Nat) (ft:Int) (w:World) (c1:w.cell? ⟨P,1,none⟩=some (.int .i64 ft)) :
  Calls prog 153 #[.pointer (some ⟨P,0,none⟩)] w fun e w'=>e=.returned (.bool (decide (ft<1∨512<ft)))∧Below w.heap.size w w':=by
 have hB:=Below.refl w.heap.size w;rw [show decide (ft<1∨512<ft)=(decide (ft<1) || decide (512<ft)) by simp]
 by_cases h1:ft<1
 ·rw [decide_eq_true h1]
  go_enter func153,ntmps153
  go_wp2_with fail
  try (go_quiet (fail);go_wp2)
  go_ret;exact ⟨ret_b (by simp),by (repeat' first | exact br_ | assumption | apply Below.drew | apply q18 | refine Below.alloc ?_ ?_ _ | refine Below.setCell ?_ ?_ _ | refine Below.trans ?_ (Below.mono ‹_› ?_) | omega | (simp;omega) | simp)⟩
 ·have hd:=decide_eq_false h1
  rw [hd]
  go_enter func153,ntmps153
  go_wp2_with fail
  try (go_quiet (fail);go_wp2)
  go_ret;exact ⟨ret_b (by simp),by (repeat' first | exact br_ | assumption | apply Below.drew | apply q18 | refine Below.alloc ?_ ?_ _ | refine Below.setCell ?_ ?_ _ | refine Below.trans ?_ (Below.mono ‹_› ?_) | omega | (simp;omega) | simp)⟩
theorem qgz (P:Nat) (wa:Int) (w:World) (c2:w.cell? ⟨P,2,none⟩=some (.int .i64 wa)) :
  Calls prog 154 #[.pointer (some ⟨P,0,none⟩)] w fun e w'=>e=.returned (.bool (decide (wa<0∨1048576<wa)))∧Below w.heap.size w w':=by
 have hB:=Below.refl w.heap.size w;rw [show decide (wa<0∨1048576<wa)=(decide (wa<0) || decide (1048576<wa)) by simp]
 by_cases h1:wa<0
 ·rw [decide_eq_true h1]
  go_enter func154,ntmps154
  go_wp2_with fail
  try (go_quiet (fail);go_wp2)
  go_ret;exact ⟨ret_b (by simp),by (repeat' first | exact br_ | assumption | apply Below.drew | apply q18 | refine Below.alloc ?_ ?_ _ | refine Below.setCell ?_ ?_ _ | refine Below.trans ?_ (Below.mono ‹_› ?_) | omega | (simp;omega) | simp)⟩
 ·have hd:=decide_eq_false h1
  rw [hd]
  go_enter func154,ntmps154
  go_wp2_with fail
  try (go_quiet (fail);go_wp2)
  go_ret;exact ⟨ret_b (by simp),by (repeat' first | exact br_ | assumption | apply Below.drew | apply q18 | refine Below.alloc ?_ ?_ _ | refine Below.setCell ?_ ?_ _ | refine Below.trans ?_ (Below.mono ‹_› ?_) | omega | (simp;omega) | simp)⟩
theorem qh0 (P:Nat) (A:Option Addr) (n c:Nat) (w:World) (c3:w.cell? ⟨P,3,none⟩=some (.slice A n c)) :
  Calls prog 155 #[.pointer (some ⟨P,0,none⟩)] w fun e w'=>e=.returned (.bool (decide (16<(n:Int))))∧Below w.heap.size w w':=by
 have hB:=Below.refl w.heap.size w
 go_enter func155,ntmps155
 go_wp2_with fail;go_ret;exact ⟨rfl,hB⟩
def InP (w:World) (A:Option Addr) (n:Nat) (H:List FC) (l:List Fea):Prop:=InF w A n H l∧n≤9223372036854775806∧∀ i (h:i<H.length) (h':i<l.length),FW w H[i] l[i].wh
theorem InP.below {w w':World} {A:Option Addr} {n:Nat} {H:List FC} {l:List Fea} (h:InP w A n H l) (hb:Below w.heap.size w w'):InP w' A n H l :=
 ⟨h.1.below hb,h.2.1,fun i h1 h2=>(h.2.2 i h1 h2).below hb⟩
theorem qit (s:ByteArray) (ft wa:Int) (l:List Fea) (L:List (List PT)):profE s ft wa l L=if errA L≠0 then errA L else if firstB [(!nmB s,8),(decide (ft<1∨512<ft),2),(decide (wa<0∨1048576<wa),2),(decide (16<(l.length:Int)),5)]≠0 then firstB [(!nmB s,8),(decide (ft<1∨512<ft),2),(decide (wa<0∨1048576<wa),2),(decide (16<(l.length:Int)),5)] else firstE (feaE l ft L.length) l.length:=by
 unfold profE
 by_cases h0:errA L≠0
 ·rw [if_pos h0,if_pos h0]
 rw [if_neg h0,if_neg h0]
 cases h1:nmB s with
 | false=>simp [firstB]
 | true =>
  rw [if_neg (by simp)]
  by_cases h2:ft<1∨512<ft
  ·rw [if_pos (by omega)];simp only [firstB,decide_eq_true h2];rfl
  by_cases h3:wa<0∨1048576<wa
  ·rw [if_pos (by omega)];simp only [firstB,decide_eq_false h2,decide_eq_true h3];rfl
  rw [if_neg (by omega)]
  by_cases h4:16<l.length
  ·rw [if_pos h4];simp only [firstB,decide_eq_false h2,decide_eq_false h3,decide_eq_true (show 16<(l.length:Int) by omega)];rfl
  ·rw [if_neg h4];simp only [firstB,decide_eq_false h2,decide_eq_false h3,decide_eq_false (show ¬ 16<(l.length:Int) by omega)];rfl
set_option maxRecDepth 100000 in
theorem qfz (s:ByteArray) (ft wa:Int) (A:Option Addr) (n c:Nat) (H:List FC) (l:List Fea) (A':Option Addr) (n' c':Nat) (H':List Hd) (L:List (List PT)) (w:World) (hp:InP w A n H l) (hl:InN w A' n' H' L) (hm:∀ h ∈ H',h.n≤9223372036854775807) :
  Calls prog 108 #[.agg #[.string s,.int .i64 ft,.int .i64 wa,.slice A n c],.slice A' n' c'] w fun e w'=>e=.returned (.int .i64 (profE s ft wa l L))∧Below w.heap.size w w':=by
 have hnl:(n:Int)=(l.length:Int):=by have:=hp.1.1.1;have:=hp.1.2.1;omega
 have hn':L.length=n':=by have:=hl.1.1;have:=hl.2.1;omega
 have HCu:=hj_ (fun w hl=>qh5 A' n' c' H' L w hl hm)
 have HFe:=hj_ (fun w (h:InP w A n H l)=>qhf s ft wa A n c H l n' w h.1 h.2.1 h.2.2)
 have hr:=qit s ft wa l L;rw [hn'] at hr;obtain ⟨E,hE⟩:∃ E,profE s ft wa l L=E:=⟨_,rfl⟩;rw [hE] at hr ⊢;obtain ⟨W,hW⟩:∃ W,W=w.alloc (.cells #[.string s,.int .i64 ft,.int .i64 wa,.slice A n c] 87):=⟨_,rfl⟩;obtain ⟨hB0,hK⟩:=pbox s ft wa A n c w W hW;have HK:=hj_ hK;have HW:=hj_ hW;have HB0:=hj_ hB0;have hB:=Below.refl W.heap.size W;obtain ⟨c0,c1,c2,c3⟩:=hK W hB;have hsW:W.heap.size=w.heap.size+1:=by rw [hW];simp
 clear hW hB0 hK;have HF:=hj_ (qhh [⟨151,#[.pointer (some ⟨w.heap.size,0,none⟩)],8,!nmB s⟩,⟨153,#[.pointer (some ⟨w.heap.size,0,none⟩)],2,decide (ft<1∨512<ft)⟩,⟨154,#[.pointer (some ⟨w.heap.size,0,none⟩)],2,decide (wa<0∨1048576<wa)⟩,⟨155,#[.pointer (some ⟨w.heap.size,0,none⟩)],5,decide (16<(n:Int))⟩] 4);rw [q8a] at HF;replace HF:=hj_ (fun wk (hB:Below W.heap.size W wk)=>HF.out wk rfl (by decide)
  (fun i h args w=>by
   match i,h with
   | 0,_=>exact enters_of func151 (by kernel_rfl) rfl args w
   | 1,_=>exact enters_of func153 (by kernel_rfl) rfl args w
   | 2,_=>exact enters_of func154 (by kernel_rfl) rfl args w
   | 3,_=>exact enters_of func155 (by kernel_rfl) rfl args w)
  (fun i h W' _ hb'=>by
   obtain ⟨c0,c1,c2,c3⟩:=HK.out W' (ht_ hB hb')
   match i,h with
   | 0,_=>exact qgx _ s W' c0
   | 1,_=>exact qgy _ ft W' c1
   | 2,_=>exact qgz _ wa W' c2
   | 3,_=>exact qh0 _ A n c W' c3))
 rw [← hnl] at hr;have HP:=hj_ (hp.below HB0.out);have HL:=hj_ (hl.below HB0.out);replace HF:=hj_ (show ∀ wk,Below W.heap.size W wk→Calls prog 150 #[.slice (some ⟨wk.heap.size,0,none⟩) 4 4] (wk.alloc (.cells #[.func (.func 151) #[] #[.pointer (some ⟨w.heap.size,0,none⟩)],.int .i64 8,.func (.func 153) #[] #[.pointer (some ⟨w.heap.size,0,none⟩)],.int .i64 2,.func (.func 154) #[] #[.pointer (some ⟨w.heap.size,0,none⟩)],.int .i64 2,.func (.func 155) #[] #[.pointer (some ⟨w.heap.size,0,none⟩)],.int .i64 5] 215)) fun e w'=>e=.returned (.int .i64 (firstB [(!nmB s,8),(decide (ft<1∨512<ft),2),(decide (wa<0∨1048576<wa),2),(decide (16<(n:Int)),5)]))∧Below wk.heap.size wk w' from HF.out)
 generalize firstB [(!nmB s,8),(decide (ft<1∨512<ft),2),(decide (wa<0∨1048576<wa),2),(decide (16<(n:Int)),5)]=q at *;generalize errA L=u at *;generalize firstE (feaE l ft n') l.length=v at *;clear hp hl hm hE hn' hnl hsW
 by_cases hu:u=0
 case neg =>
  rw [if_pos hu] at hr;subst hr;have g1:(E == 0)=false:=by simpa using hu
  have g2:(E != 0)=true:=by simpa using hu
  go_enter func108,ntmps108
  go_wp2_with fail;rw [← HW.out];refine uq_ (HCu.out _ (HL.out.below hB)) hB ?_;clear hB;intro wk hB;go_wp2_with fail;go_ret;exact ⟨rfl,ht_ HB0.out hB⟩
 case pos =>
  subst hu;rw [if_neg (fun h=>h rfl)] at hr
  by_cases hq:q=0
  case neg =>
   rw [if_pos hq] at hr;subst hr;have g1:(E == 0)=false:=by simpa using hq
   have g2:(E != 0)=true:=by simpa using hq
   go_enter func108,ntmps108
   go_wp2_with fail;rw [← HW.out];refine uq_ (HCu.out _ (HL.out.below hB)) hB ?_;clear hB;intro wk hB;go_wp2_with fail;refine uq_ (HF.out _ hB) hB ?_;clear hB;intro wk hB;go_wp2_with fail;go_ret;exact ⟨rfl,ht_ HB0.out hB⟩
  case pos =>
   subst hq;rw [if_neg (fun h=>h rfl)] at hr
   subst hr
   go_enter func108,ntmps108
   go_wp2_with fail;rw [← HW.out];refine uq_ (HCu.out _ (HL.out.below hB)) hB ?_;clear hB;intro wk hB;go_wp2_with fail;refine uq_ (HF.out _ hB) hB ?_;clear hB;intro wk hB;obtain ⟨c0,c1,c2,c3⟩:=HK.out _ hB;go_wp2_with fail;refine uq_ (HFe.out _ (HP.out.below hB)) hB ?_;clear hB;intro wk hB;go_wp2_with fail;go_ret;exact ⟨rfl,ht_ HB0.out hB⟩
end

section
open Go.RowKit
theorem q0fg (g:Nat) (cb:Array Value) (p:FC→Bool) (A:Option Addr) (n c:Nat) (l:List FC) (w:World) (eg:∀ args w,(callFunc g args).run prog w=.ok (.enter g args) w) (hl:shF.In w A n l) (hn:n≤9223372036854775807)
  (hf:∀ i (h:i<l.length) (W:World),Below w.heap.size w W→Calls prog g (#[l[i].val] ++ cb) W fun e w'=>e=.returned (.bool (p l[i]))∧Below W.heap.size W w') :
  Calls prog 101 #[.slice A n c,.func (.func g) #[] cb] w fun e w'=>e=.returned (.int .i64 (idxOf p l))∧Below w.heap.size w w':=by
 obtain ⟨rfl,_⟩:=id hl;have HL:=hj_ hl;have HF:=hj_ hf;have hB:=Below.refl w.heap.size w;obtain ⟨E,hE⟩:∃ E,E=idxOf p l:=⟨_,rfl⟩;rw [← hE];have HE:=hj_ hE;clear hl hf hE
 go_enter func101,ntmps101
 go_wp2_with fail
 go_loopw [8] (fun iv wr=>∃ k:Nat,k≤l.length∧iv=.int .i64 k∧(∀ j (h:j<l.length),j<k→p l[j]=false)∧Below w.heap.size w wr) (fun iv _=>l.length-(intOf iv).toNat)
 case atStart=>exact ⟨0,Nat.zero_le _,rfl,fun j _ h=>absurd h (Nat.not_lt_zero _),br_⟩
 case round =>
  obtain ⟨k,hk,rfl,hall,hBr⟩:=hrel;have HAll:=hj_ hall;clear hall
  by_cases hlt:k<l.length
  ·obtain ⟨b,o,rfl,hbl,hcell⟩:=ft_at HL.out (by omega)
   have hk2:=hcell k hlt;have kk:=fun (q:Nat)=>hBr.cell (p:=⟨b,q,none⟩) hbl
   have hbw:b<wr.heap.size:=Nat.lt_of_lt_of_le hbl hBr.size;have hc:=HF.out k hlt wr hBr;have HY:=hj_ (show p l[k]=true→E=k from fun h=>HE.out.trans (qbd hlt (fun i hi=>HAll.out i (by omega) hi) h))
   have HN:=hj_ (show p l[k]=false→∀ j (h:j<l.length),j<k+1→p l[j]=false from fun h j hj hjk=>by
    rcases Nat.lt_or_eq_of_le (Nat.le_of_lt_succ hjk) with h1 | h1
    ·exact HAll.out j hj h1
    ·subst h1;exact h)
   clear hcell;have i0:(0:Int)≤(k:Int):=by omega
   have i1:(k:Int)<(l.length:Int):=by omega
   have HBr:=hj_ hBr;clear hBr;generalize l[k]=f at *;generalize hpf:p f=pf at *;obtain ⟨at_,bits,co,fi,cu,ho,lo,hi,sn,A,n,c⟩:=f
   obtain ⟨k0,k1,k2,k3,k4,k5,k6,k7,k8,k9⟩:=hk2;have p0:=(kk _).trans k0;have p1:=(kk _).trans k1;have p2:=(kk _).trans k2;have p3:=(kk _).trans k3;have p4:=(kk _).trans k4;have p5:=(kk _).trans k5;have p6:=(kk _).trans k6;have p7:=(kk _).trans k7;have p8:=(kk _).trans k8;have p9:=(kk _).trans k9;clear k0 k1 k2 k3 k4 k5 k6 k7 k8 k9 kk hpf;dsimp only at p0 p1 p2 p3 p4 p5 p6 p7 p8 p9
   cases pf with
   | true =>
    have hee:E=k:=HY.out rfl;subst hee;go_wp2_with (go_at_fn g;refine hc.mono ?_;rintro e w' ⟨rfl,hb⟩;have hB:=ht_ HBr.out hb);go_ret;exact ⟨rfl,hB⟩
   | false =>
    have HN1:=hj_ (HN.out rfl);go_wp2_with (go_at_fn g;refine hc.mono ?_;rintro e w' ⟨rfl,hb⟩;have hB:=ht_ HBr.out hb)
    go_roundw
    case rel=>exact ⟨k+1,by omega,by go_num,HN1.out,hB⟩
    case measure=>simp [intOf];omega
  ·obtain rfl:k=l.length:=by omega
   have hE0:E=-1:=HE.out.trans (qbc fun i h=>HAll.out i h h)
   subst hE0;go_wp2_with fail;go_ret;exact ⟨rfl,hBr⟩
end

section
open Go.RowKit
structure PC where
 s:ByteArray
 ft:Int
 wa:Int
 A:Option Addr
 n:Nat
 c:Nat
def shPr:Sh PC:=⟨4,fun p=>[.string p.s,.int .i64 p.ft,.int .i64 p.wa,.slice p.A p.n p.c],fun _=>rfl,fun a=>by simp;exact ⟨rfl,rfl,rfl,rfl⟩⟩
end

end Go.Proofs.YtabhjdmmfdfpeaaGreatDoor
