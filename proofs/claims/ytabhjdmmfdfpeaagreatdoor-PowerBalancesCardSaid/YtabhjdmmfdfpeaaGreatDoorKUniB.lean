/- Lemmas. -/
import Derived.Test.YtabhjdmmfdfpeaaGreatDoorKUniA
import Derived.Test.YtabhjdmmfdfpeaaGreatDoorKProL
namespace Go.Proofs.YtabhjdmmfdfpeaaGreatDoor
set_option maxHeartbeats 32000000
set_option maxRecDepth 100000
open _root_.Go.Proofs.Tryz
open Go.RowKit
variable {S b c n:Nat} {A:Option Addr} {w w' wr:World}
theorem qy0 (x:Fx) (w:World) :
  Rt 223 #[x.val] w (.bool (qkt x)):=by
 have hr:=qku (x:=x);obtain ⟨E,hE⟩:∃ E:Bool,qkt x=E:=⟨_,rfl⟩;rw [hE] at hr ⊢;obtain ⟨ch,pt,pr,un,ad,ph,cb⟩:=x;dsimp only at hr;show Rt 223 #[.agg #[.int .i64 ch,.int .i64 pt,.string pr,.int .i64 un,.int .i64 ad,.int .i64 ph,.string cb]] w (.bool E)
 obtain ⟨W,HW,HB0,HK⟩:=bx7_10 w (.int .i64 ch) (.int .i64 pt) (.string pr) (.int .i64 un) (.int .i64 ad) (.int .i64 ph) (.string cb) 45 (.int .i64 ch) (.int .i64 999) (.int .i64 pt) (.int .i64 64) (.int .i64 un) (.int .i64 8) (.int .i64 ad) (.int .i64 512) (.int .i64 ph) (.int .i64 3) 320;have hB:=Below.refl W.heap.size W;obtain ⟨c0,c1,c2,c3,c4,c5,c6,c7,c8,c9,c10,c11,c12,c13,c14,c15,c16⟩:=HK.out W hB;have hbad:=hj_ (show (ch<1∨999<ch∨pt<1∨64<pt∨un<1∨8<un∨ad<1∨512<ad∨ph<1∨3<ph)→E=false from fun h=>hr.2 h)
 have hgood:=hj_ (show ¬ (ch<1∨999<ch∨pt<1∨64<pt∨un<1∨8<un∨ad<1∨512<ad∨ph<1∨3<ph)→E=true from fun h=>by
  cases E with
  | true=>rfl
  | false=>exact absurd (hr.1 rfl) h)
 clear hr hE c0 c1 c2 c3 c4 c5 c6 c7 c8 c9 c10 c11 c12 c13 c14 c15 c16
 go_enter func223,ntmps223
 go_wp2_with fail;rw [← HW.out]
 go_loopw [22] (fun iv wr=>∃ k:Nat,k≤5∧iv=.int .i64 k∧((0<k→1≤ch∧ch≤999)∧(1<k→1≤pt∧pt≤64)∧(2<k→1≤un∧un≤8)∧(3<k→1≤ad∧ad≤512)∧(4<k→1≤ph∧ph≤3))∧Below W.heap.size W wr) (fun iv _=>5-(intOf iv).toNat)
 case atStart=>exact ⟨0,o_,rfl,⟨o_,o_,o_,o_,o_⟩,br_⟩
 case round =>
  obtain ⟨k,hk,rfl,hall,hB⟩:=hrel;have HA:=hj_ hall;clear hall;obtain ⟨-,-,-,-,-,-,-,c7,c8,c9,c10,c11,c12,c13,c14,c15,c16⟩:=HK.out _ hB;have hsz:w.heap.size+1<wr.heap.size:=by
                          have:=hB.size;have:W.heap.size=w.heap.size+2:=by rw [HW.out];simp
                          omega
  have HB:=hj_ hB;clear hB;have BZ:=hj_ (fun (w':World) (h:Below W.heap.size W w')=>ht_ HB0.out h)
  obtain rfl | rfl | rfl | rfl | rfl | rfl:k=0∨k=1∨k=2∨k=3∨k=4∨k=5:=o_
  ·by_cases h1:ch<1
   ·obtain rfl:=hbad.out o_
    go_wp2_with fail;go_ret;exact ⟨rfl,BZ.out _ (HB.out.alloc HB.out.size _)⟩
   by_cases h2:999<ch
   ·obtain rfl:=hbad.out o_
    go_wp2_with fail;go_ret;exact ⟨rfl,BZ.out _ (HB.out.alloc HB.out.size _)⟩
   ·go_wp2_with fail
    go_roundw
    case rel=>exact ⟨1,o_,by go_num,by have:=HA.out;omega,HB.out.alloc HB.out.size _⟩
    case measure=>simp [intOf]
  ·by_cases h1:pt<1
   ·obtain rfl:=hbad.out o_
    go_wp2_with fail;go_ret;exact ⟨rfl,BZ.out _ (HB.out.alloc HB.out.size _)⟩
   by_cases h2:64<pt
   ·obtain rfl:=hbad.out o_
    go_wp2_with fail;go_ret;exact ⟨rfl,BZ.out _ (HB.out.alloc HB.out.size _)⟩
   ·go_wp2_with fail
    go_roundw
    case rel=>exact ⟨2,o_,by go_num,by have:=HA.out;omega,HB.out.alloc HB.out.size _⟩
    case measure=>simp [intOf]
  ·by_cases h1:un<1
   ·obtain rfl:=hbad.out o_
    go_wp2_with fail;go_ret;exact ⟨rfl,BZ.out _ (HB.out.alloc HB.out.size _)⟩
   by_cases h2:8<un
   ·obtain rfl:=hbad.out o_
    go_wp2_with fail;go_ret;exact ⟨rfl,BZ.out _ (HB.out.alloc HB.out.size _)⟩
   ·go_wp2_with fail
    go_roundw
    case rel=>exact ⟨3,o_,by go_num,by have:=HA.out;omega,HB.out.alloc HB.out.size _⟩
    case measure=>simp [intOf]
  ·by_cases h1:ad<1
   ·obtain rfl:=hbad.out o_
    go_wp2_with fail;go_ret;exact ⟨rfl,BZ.out _ (HB.out.alloc HB.out.size _)⟩
   by_cases h2:512<ad
   ·obtain rfl:=hbad.out o_
    go_wp2_with fail;go_ret;exact ⟨rfl,BZ.out _ (HB.out.alloc HB.out.size _)⟩
   ·go_wp2_with fail
    go_roundw
    case rel=>exact ⟨4,o_,by go_num,by have:=HA.out;omega,HB.out.alloc HB.out.size _⟩
    case measure=>simp [intOf]
  ·by_cases h1:ph<1
   ·obtain rfl:=hbad.out o_
    go_wp2_with fail;go_ret;exact ⟨rfl,BZ.out _ (HB.out.alloc HB.out.size _)⟩
   by_cases h2:3<ph
   ·obtain rfl:=hbad.out o_
    go_wp2_with fail;go_ret;exact ⟨rfl,BZ.out _ (HB.out.alloc HB.out.size _)⟩
   ·go_wp2_with fail
    go_roundw
    case rel=>exact ⟨5,o_,by go_num,by have:=HA.out;omega,HB.out.alloc HB.out.size _⟩
    case measure=>simp [intOf]
  ·obtain rfl:=hgood.out (oh_ HA.out)
   go_wp2_with fail;go_ret;exact ⟨rfl,BZ.out _ HB.out⟩
abbrev sK:ByteArray→Value:=fun x=>.string x
def NrI (A:Option Addr) (n c:Nat) (w wr:World) (S:Nat) (M:List (ByteArray × Value)):Prop :=
 Below S w wr∧Cells wr S [.slice none 0 0,.map none]∧MapAt sK wr (S+1) M∧Cells wr (S+1+1) [.slice A n c,.map (some (S+1))]
theorem NrI.below {M:List (ByteArray × Value)} (h:NrI A n c w wr S M) (hb:Below wr.heap.size wr w'):NrI A n c w w' S M:=by
 obtain ⟨h1,h2,h3,h4⟩:=h;exact ⟨h1.trans (hb.mono (oh_ h2.1)),h2.below hb h2.1,h3.below hb,h4.below hb h4.1⟩
theorem NrI.put {M M':List (ByteArray × Value)} (h:NrI A n c w wr S M) (hm:MapAt sK w' (S+1) M') (hg:wr.grownBy w' (some (S+1))):NrI A n c w w' S M':=by
 obtain ⟨h1,h2,h3,h4⟩:=h
 have:=h3.lt
 exact ⟨h1.grown hg o_ (fun q e=>by cases e;omega),h2.grown hg o_,hm,h4.grown hg o_⟩
theorem NrI.start (A:Option Addr) (n c:Nat) (w:World) (t1 t2:TypeId):NrI A n c w (((w.alloc (.cells #[.slice none 0 0,.map none] t1)).alloc (.map #[] 0)).alloc (.cells #[.slice A n c,.map (some (w.heap.size+1))] t2)) w.heap.size []:=by
 obtain ⟨W1,h1⟩:=ex_ (w.alloc (.cells #[.slice none 0 0,.map none] t1));obtain ⟨W2,h2⟩:=ex_ (W1.alloc (.map #[] 0));rw [← h1,← h2];have s1:W1.heap.size=w.heap.size+1:=by rw [h1];simp
 have s2:W2.heap.size=w.heap.size+1+1:=by rw [h2];simp [s1]
 have b1:Below w.heap.size w W1:=by rw [h1];exact (br_).alloc lr_ _
 have b2:Below W1.heap.size W1 W2:=by rw [h2];exact (br_).alloc lr_ _
 have b3:Below W2.heap.size W2 (W2.alloc (.cells #[.slice A n c,.map (some (w.heap.size+1))] t2)):=(br_).alloc lr_ _;have k1:Cells W1 w.heap.size [.slice none 0 0,.map none]:=by rw [h1];exact Cells.fresh w [.slice none 0 0,.map none] t1
 have k2:MapAt sK W2 (w.heap.size+1) []:=by rw [h2,← s1];exact MapAt.made sK W1
 have k3:=Cells.fresh W2 [.slice A n c,.map (some (w.heap.size+1))] t2;rw [s2] at k3;exact ⟨b1.trans ((ht_ b2 b3).mono b1.size),(k1.below b2 k1.1).below b3 o_,k2.below b3,k3⟩
theorem qu7 (A:Option Addr) (n c:Nat) (A':Option Addr) (n' c':Nat) (P:List PC) (w:World) (hl:shPr.In w A' n' P) (hn:n'≤9223372036854775806) :
  Calls prog 157 #[.slice A n c,.slice A' n' c'] w fun e w'=>∃ b,e=.returned (.agg #[.slice A n c,.map (some b)])∧w.heap.size≤b∧MapAt sK w' b (profM P)∧Below w.heap.size w w':=by
 obtain ⟨rfl,_⟩:=id hl;have HL:=hj_ hl;obtain ⟨W,hW⟩:=ex_ (((w.alloc (.cells #[.slice none 0 0,.map none] 219)).alloc (.map #[] 0)).alloc (.cells #[.slice A n c,.map (some (w.heap.size+1))] 219));have hI0:=NrI.start A n c w 219 219;rw [← hW] at hI0;have HW:=hj_ hW;have HI0:=hj_ hI0;have hmm:∀ w,(Instr.makeMap 217 none).run prog w=.ok (.map (some w.heap.size)) (w.alloc (.map #[] 0)):=fun w=>run_makeMap _ w
 have HZ:=hj_ (show ∀ w,(zeroValue 87).run prog w=.ok pc0.val w from fun w=>k_)
 clear hl hW hI0
 go_enter func157,ntmps157
 go_wp2_with fail;rw [← HW.out];clear hmm
 go_loopw [15] (fun iv wr=>∃ k:Nat,k≤P.length∧iv=.int .i64 k∧NrI A n c w wr w.heap.size (profM (P.take k))) (fun iv _=>P.length-(intOf iv).toNat)
 case atStart=>exact ⟨0,Nat.zero_le _,rfl,HI0.out⟩
 case round =>
  obtain ⟨k,hk,rfl,hI⟩:=hrel;have HI:=hj_ hI;obtain ⟨hb,h2,h3,h4⟩:=hI;have r0:=h4.at_ (j:=0) rfl
  have r1:=h4.at_ (j:=1) rfl
  have s0:=h2.at_ (j:=0) rfl
  have s1:=h2.at_ (j:=1) rfl
  have f0:=h2.fr (j:=0) rfl;have f1:=h2.fr (j:=1) rfl;have hs1:=h4.1;have hs2:w.heap.size<wr.heap.size:=h2.1;have n1:¬ w.heap.size+1=wr.heap.size:=o_
  have n2:¬ w.heap.size+1+1=wr.heap.size:=o_
  have n3:w.heap.size+1<wr.heap.size:=o_
  have n4:w.heap.size+1+1<wr.heap.size+1:=o_
  have n5:¬ w.heap.size=wr.heap.size:=o_
  have HB:=hj_ hb;clear h2 h3 h4
  by_cases hlt:k<P.length
  case pos =>
   obtain ⟨b,o,rfl,hbl,hcell⟩:=pc_at HL.out o_
   have hk4:=hcell k hlt;have kk:=fun (q:Nat)=>hb.cell (p:=⟨b,q,none⟩) hbl
   have hbw:b<wr.heap.size:=o_
   have hq:=q9f (P.take k) P[k].s;have hpush:=qiq (P.take k) P[k];rw [← List.take_succ_eq_append_getElem hlt] at hpush;clear hcell hb;generalize P[k]=p at *;generalize profM (P.take k)=M at *;obtain ⟨ps,pf,pw,pA,pn,pc⟩:=p;obtain ⟨k0,k1,k2,k3⟩:=hk4;have p0:=(kk _).trans k0;have p1:=(kk _).trans k1;have p2:=(kk _).trans k2;have p3:=(kk _).trans k3;clear k0 k1 k2 k3 kk;dsimp only at p0 p1 p2 p3 hq hpush;generalize (pcF (P.take k) ps).getD pc0=q at hq;obtain ⟨qs,qf,qw,qA,qn,qc⟩:=q;have hlv:lookV true M ps pc0.val=.tuple #[.agg #[.string qs,.int .i64 qf,.int .i64 qw,.slice qA qn qc],.bool (lookL M ps).isSome]:=by
    unfold lookV;rw [if_pos rfl,hq]
    rfl
   have HM:=hj_ (fun (w':World) (h:Below wr.heap.size wr w')=>(HI.out.below h).2.2.1)
   have i0:(0:Int)≤(k:Int):=o_
   have i1:(k:Int)<(P.length:Int):=o_
   have w1:IntKind.i64.wrap ((k:Int)+1)=(k:Int)+1:=IntWalk.i64_in _ o_
   clear hq
   cases hkn:(lookL M ps).isSome with
   | true =>
    rw [hkn] at hlv;have HLV:=hj_ hlv;have HP:=hj_ (show profM (P.take (k+1))=M by rw [hpush];unfold putP;rw [if_pos hkn])
    clear hlv hpush hkn;go_wp2_with (at_lookup;refine q002 _ rfl _ _ _ _ rfl _ _ underlying217 sK (KeyTy.str underlying9) (w.heap.size+1) M ps rfl rfl (HM.out _ bz_) pc0.val (HZ.out _) ?_;rw [HLV.out])
    go_roundw
    case rel=>exact ⟨k+1,o_,by go_num,by rw [HP.out];exact HI.out.below bz_⟩
    case measure=>simp [intOf];omega
   | false =>
    rw [hkn] at hlv;have HLV:=hj_ hlv;have HP:=hj_ (show profM (P.take (k+1))=M ++ [(ps,.agg #[.string ps,.int .i64 pf,.int .i64 pw,.slice pA pn pc])] by rw [hpush];unfold putP;rw [if_neg (by rw [hkn];exact Bool.false_ne_true)];rfl)
    have HN:=hj_ (show lookL M ps=none from by
     cases hv:lookL M ps with
     | none=>rfl
     | some v=>rw [hv] at hkn;cases hkn)
    clear hlv hpush hkn;go_wp2_with (first | (at_lookup;refine q002 _ rfl _ _ _ _ rfl _ _ underlying217 sK (KeyTy.str underlying9) (w.heap.size+1) M ps rfl rfl (HM.out _ bz_) pc0.val (HZ.out _) ?_;rw [HLV.out]) | (at_mapUpdate;refine q004 _ rfl _ _ _ _ rfl _ _ underlying217 sK (KeyTy.str underlying9) (w.heap.size+1) M ps (.agg #[.string ps,.int .i64 pf,.int .i64 pw,.slice pA pn pc]) rfl rfl rfl (HM.out _ bz_) HN.out ?_;intro w5 hm5 hg5;have HI5:=hj_ ((HI.out.below bz_).put hm5 hg5)))
    go_roundw
    case rel=>exact ⟨k+1,o_,by go_num,by rw [HP.out];exact HI5.out⟩
    case measure=>simp [intOf];omega
  case neg =>
   obtain rfl:k=P.length:=o_
   go_wp2_with fail
   try simp only [Exit.inBlock,Exit.then]
   refine bodyPost_ret ?_ rfl ⟨w.heap.size+1,rfl,Nat.le_succ _,?_,?_⟩
   ·rw [qlt rfl]
    go_simp
   ·have h:=HI.out.2.2.1
    rw [List.take_length] at h;exact (h.far _ _ o_).far _ _ o_
   ·have hb:=HB.out
    (repeat' first | exact br_ | assumption | apply Below.drew | apply q18 | refine Below.alloc ?_ ?_ _ | refine Below.setCell ?_ ?_ _ | refine Below.trans ?_ (Below.mono ‹_› ?_) | omega | (simp;omega) | simp)
theorem qyq (S:Value) (b:Nat) (P:List PC) (x:Fx) (w:World) (_:S.oneCell' = true) (hM:MapAt sK w b (profM P)) :
  Rt 274 #[.agg #[S,.map (some b)],x.val] w (.int .i64 (footV P x.pr)):=by
 have hq:=q9f P x.pr;have hf:=q9e P x.pr;obtain ⟨ch,pt,pr,un,ad,ph,cb⟩:=x;dsimp only at hq hf;show Rt 274 #[.agg #[S,.map (some b)],.agg #[.int .i64 ch,.int .i64 pt,.string pr,.int .i64 un,.int .i64 ad,.int .i64 ph,.string cb]] w (.int .i64 (footV P pr))
 rw [hf];generalize (pcF P pr).getD pc0=q at *;obtain ⟨qs,qf,qw,qA,qn,qc⟩:=q;have HLV:=hj_ (show lookV false (profM P) pr pc0.val=.agg #[.string qs,.int .i64 qf,.int .i64 qw,.slice qA qn qc] by
  unfold lookV;rw [if_neg d_,hq]
  rfl)
 have HZ:=hj_ (show ∀ w,(zeroValue 87).run prog w=.ok pc0.val w from fun w=>k_)
 obtain ⟨W,HW,HB0,HK⟩:=bx2_7 w S (.map (some b)) 219 (.int .i64 ch) (.int .i64 pt) (.string pr) (.int .i64 un) (.int .i64 ad) (.int .i64 ph) (.string cb) 45;have hB:=Below.refl W.heap.size W;obtain ⟨c0,c1,c2,c3,c4,c5,c6,c7,c8⟩:=HK.out W hB;have HM:=hj_ (hM.below HB0.out);clear hM hq hf;show Rt 274 #[.agg #[S,.map (some b)],.agg #[.int .i64 ch,.int .i64 pt,.string pr,.int .i64 un,.int .i64 ad,.int .i64 ph,.string cb]] w (.int .i64 qf)
 have hfl:∀ w,(Instr.field 87 (.agg #[.string qs,.int .i64 qf,.int .i64 qw,.slice qA qn qc]) 1).run prog w=.ok (.int .i64 qf) w:=fun w=>by rfl
 go_enter func274,ntmps274
 go_wp2_with (at_lookup;rw [← HW.out];refine q002 _ rfl _ _ _ _ rfl _ _ underlying217 sK (KeyTy.str underlying9) b (profM P) pr rfl rfl HM.out pc0.val (HZ.out _) ?_;rw [HLV.out])
 go_ret;exact ⟨rfl,HB0.out⟩
theorem qbo (g:Nat) (cb:Array Value) (p:Fx→Bool) (A:Option Addr) (n c:Nat) (l:List Fx) (w:World) (eg:∀ args w,(callFunc g args).run prog w=.ok (.enter g args) w) (hl:shX.In w A n l) (hn:n≤9223372036854775807)
  (hf:∀ i (h:i<l.length) (W:World),Below w.heap.size w W→Calls prog g (#[l[i].val] ++ cb) W fun e w'=>e=.returned (.bool (p l[i]))∧Below W.heap.size W w') :
  Rt 58 #[.slice A n c,.func (.func g) #[] cb] w (.int .i64 (idxOf p l)):=by
 obtain ⟨rfl,_⟩:=id hl;have HL:=hj_ hl;have HF:=hj_ hf;have hB:=Below.refl w.heap.size w;obtain ⟨E,hE⟩:=ex_ (idxOf p l);rw [← hE];have HE:=hj_ hE;clear hl hf hE
 go_enter func58,ntmps58
 go_wp2_with fail
 go_loopw [8] (fun iv wr=>∃ k:Nat,k≤l.length∧iv=.int .i64 k∧(∀ j (h:j<l.length),j<k→p l[j]=false)∧Below w.heap.size w wr) (fun iv _=>l.length-(intOf iv).toNat)
 case atStart=>exact ⟨0,Nat.zero_le _,rfl,fun j _ h=>absurd h (Nat.not_lt_zero _),br_⟩
 case round =>
  obtain ⟨k,hk,rfl,hall,hBr⟩:=hrel;have HAll:=hj_ hall;clear hall
  by_cases hlt:k<l.length
  ·obtain ⟨b,o,rfl,hbl,hcell⟩:=fx_at HL.out o_
   have hk2:=hcell k hlt;have kk:=fun (q:Nat)=>hBr.cell (p:=⟨b,q,none⟩) hbl
   have hbw:b<wr.heap.size:=Nat.lt_of_lt_of_le hbl hBr.size;have hc:=HF.out k hlt wr hBr;have HY:=hj_ (show p l[k]=true→E=k from fun h=>HE.out.trans (qbd hlt (fun i hi=>HAll.out i o_ hi) h))
   have HN:=hj_ (show p l[k]=false→∀ j (h:j<l.length),j<k+1→p l[j]=false from fun h j hj hjk=>by
    rcases Nat.lt_or_eq_of_le (Nat.le_of_lt_succ hjk) with h1 | h1
    ·exact HAll.out j hj h1
    ·subst h1;exact h)
   clear hcell;have i0:(0:Int)≤(k:Int):=o_
   have i1:(k:Int)<(l.length:Int):=o_
   have HBr:=hj_ hBr;clear hBr;generalize l[k]=f at *;generalize hpf:p f=pf at *;obtain ⟨ch,pt,pr,un,ad,ph,cb⟩:=f;obtain ⟨k0,k1,k2,k3,k4,k5,k6⟩:=hk2;have p0:=(kk _).trans k0;have p1:=(kk _).trans k1;have p2:=(kk _).trans k2;have p3:=(kk _).trans k3;have p4:=(kk _).trans k4;have p5:=(kk _).trans k5;have p6:=(kk _).trans k6;clear k0 k1 k2 k3 k4 k5 k6 kk hpf;dsimp only at p0 p1 p2 p3 p4 p5 p6
   cases pf with
   | true =>
    have hee:E=k:=HY.out rfl;subst hee;go_wp2_with (go_at_fn g;refine hc.mono ?_;rintro e w' ⟨rfl,hb⟩;have hB:=ht_ HBr.out hb);go_ret;exact ⟨rfl,hB⟩
   | false =>
    have HN1:=hj_ (HN.out rfl);go_wp2_with (go_at_fn g;refine hc.mono ?_;rintro e w' ⟨rfl,hb⟩;have hB:=ht_ HBr.out hb)
    go_roundw
    case rel=>exact ⟨k+1,o_,by go_num,HN1.out,hB⟩
    case measure=>simp [intOf];omega
  ·obtain rfl:k=l.length:=by omega
   have hE0:E=-1:=HE.out.trans (qbc fun i h=>HAll.out i h h)
   subst hE0;go_wp2_with fail;go_ret;exact ⟨rfl,hBr⟩
theorem qbq (g:Nat) (cb:Array Value) (p:PC→Bool) (A:Option Addr) (n c:Nat) (l:List PC) (w:World) (eg:∀ args w,(callFunc g args).run prog w=.ok (.enter g args) w) (hl:shPr.In w A n l) (hn:n≤9223372036854775807)
  (hf:∀ i (h:i<l.length) (W:World),Below w.heap.size w W→Calls prog g (#[l[i].val] ++ cb) W fun e w'=>e=.returned (.bool (p l[i]))∧Below W.heap.size W w') :
  Rt 63 #[.slice A n c,.func (.func g) #[] cb] w (.int .i64 (idxOf p l)):=by
 obtain ⟨rfl,_⟩:=id hl;have HL:=hj_ hl;have HF:=hj_ hf;have hB:=Below.refl w.heap.size w;obtain ⟨E,hE⟩:=ex_ (idxOf p l);rw [← hE];have HE:=hj_ hE;clear hl hf hE
 go_enter func63,ntmps63
 go_wp2_with fail
 go_loopw [8] (fun iv wr=>∃ k:Nat,k≤l.length∧iv=.int .i64 k∧(∀ j (h:j<l.length),j<k→p l[j]=false)∧Below w.heap.size w wr) (fun iv _=>l.length-(intOf iv).toNat)
 case atStart=>exact ⟨0,Nat.zero_le _,rfl,fun j _ h=>absurd h (Nat.not_lt_zero _),br_⟩
 case round =>
  obtain ⟨k,hk,rfl,hall,hBr⟩:=hrel;have HAll:=hj_ hall;clear hall
  by_cases hlt:k<l.length
  ·obtain ⟨b,o,rfl,hbl,hcell⟩:=pc_at HL.out o_
   have hk2:=hcell k hlt;have kk:=fun (q:Nat)=>hBr.cell (p:=⟨b,q,none⟩) hbl
   have hbw:b<wr.heap.size:=Nat.lt_of_lt_of_le hbl hBr.size;have hc:=HF.out k hlt wr hBr;have HY:=hj_ (show p l[k]=true→E=k from fun h=>HE.out.trans (qbd hlt (fun i hi=>HAll.out i o_ hi) h))
   have HN:=hj_ (show p l[k]=false→∀ j (h:j<l.length),j<k+1→p l[j]=false from fun h j hj hjk=>by
    rcases Nat.lt_or_eq_of_le (Nat.le_of_lt_succ hjk) with h1 | h1
    ·exact HAll.out j hj h1
    ·subst h1;exact h)
   clear hcell;have i0:(0:Int)≤(k:Int):=o_
   have i1:(k:Int)<(l.length:Int):=o_
   have HBr:=hj_ hBr;clear hBr;generalize l[k]=f at *;generalize hpf:p f=pf at *;obtain ⟨s,ft,wa,A,n,c⟩:=f;obtain ⟨k0,k1,k2,k3⟩:=hk2;have p0:=(kk _).trans k0;have p1:=(kk _).trans k1;have p2:=(kk _).trans k2;have p3:=(kk _).trans k3;clear k0 k1 k2 k3 kk hpf;dsimp only at p0 p1 p2 p3
   cases pf with
   | true =>
    have hee:E=k:=HY.out rfl;subst hee;go_wp2_with (go_at_fn g;refine hc.mono ?_;rintro e w' ⟨rfl,hb⟩;have hB:=ht_ HBr.out hb);go_ret;exact ⟨rfl,hB⟩
   | false =>
    have HN1:=hj_ (HN.out rfl);go_wp2_with (go_at_fn g;refine hc.mono ?_;rintro e w' ⟨rfl,hb⟩;have hB:=ht_ HBr.out hb)
    go_roundw
    case rel=>exact ⟨k+1,o_,by go_num,HN1.out,hB⟩
    case measure=>simp [intOf];omega
  ·obtain rfl:k=l.length:=by omega
   have hE0:E=-1:=HE.out.trans (qbc fun i h=>HAll.out i h h)
   subst hE0;go_wp2_with fail;go_ret;exact ⟨rfl,hBr⟩
theorem qu4 (x:Fx) (B1 B2:Nat) (u v:Int) (w:World) (hQ:B1<w.heap.size) (hR:B2<w.heap.size) (cu:w.cell? ⟨B1,0,none⟩=some (.int .i64 u)) (cv:w.cell? ⟨B2,0,none⟩=some (.int .i64 v)) :
  Rt 273 #[x.val,.pointer (some ⟨B1,0,none⟩),.pointer (some ⟨B2,0,none⟩)] w (.bool (decide (x.ch=u) && decide (x.pt=v))):=by
 obtain ⟨ch,pt,pr,un,ad,ph,cb⟩:=x;show Rt 273 #[.agg #[.int .i64 ch,.int .i64 pt,.string pr,.int .i64 un,.int .i64 ad,.int .i64 ph,.string cb],.pointer (some ⟨B1,0,none⟩),.pointer (some ⟨B2,0,none⟩)] w (.bool (decide (ch=u) && decide (pt=v)))
 obtain ⟨W,HW,HB0,HK⟩:=bx7 w (.int .i64 ch) (.int .i64 pt) (.string pr) (.int .i64 un) (.int .i64 ad) (.int .i64 ph) (.string cb) 45;have hB:=Below.refl W.heap.size W;obtain ⟨c0,c1,c2,c3,c4,c5,c6⟩:=HK.out W hB;have du:=(HB0.out.cell (p:=⟨B1,0,none⟩) hQ).trans cu;have dv:=(HB0.out.cell (p:=⟨B2,0,none⟩) hR).trans cv
 by_cases h1:ch=u
 ·have g1:(ch == u)=true:=by simpa using h1
  rw [decide_eq_true h1]
  by_cases h2:pt=v
  ·have g2:(pt == v)=true:=by simpa using h2
   rw [decide_eq_true h2];clear h1 h2
   go_enter func273,ntmps273
   go_wp2_with fail;rw [← HW.out];go_wp2_with fail;go_ret;exact ⟨rfl,HB0.out⟩
  ·have g2:(pt == v)=false:=by simpa using h2
   rw [decide_eq_false h2];clear h1 h2
   go_enter func273,ntmps273
   go_wp2_with fail;rw [← HW.out];go_wp2_with fail;go_ret;exact ⟨rfl,HB0.out⟩
 ·have g1:(ch == u)=false:=by simpa using h1
  rw [decide_eq_false h1];clear h1
  go_enter func273,ntmps273
  go_wp2_with fail;rw [← HW.out];go_wp2_with fail;go_ret;exact ⟨rfl,HB0.out⟩
def idxP (l:List Fx) (u v:Int):Int:=idxOf (fun x=>decide (x.ch=u) && decide (x.pt=v)) l
theorem qu3 (A:Option Addr) (n c:Nat) (M:Value) (l:List Fx) (u v:Int) (w:World) (_:M.oneCell' = true) (hl:shX.In w A n l) (hn:n≤9223372036854775807) :
  Rt 225 #[.agg #[.slice A n c,M],.int .i64 u,.int .i64 v] w (.int .i64 (idxP l u v)):=by
 obtain ⟨W,HW,HB0,HK⟩:=bx2_1_1 w (.slice A n c) M 219 (.int .i64 u) 3 (.int .i64 v) 3;have hB:=Below.refl W.heap.size W;obtain ⟨c0,c1,c2,c3⟩:=HK.out W hB;have hs:w.heap.size+1+1<W.heap.size:=by rw [HW.out];simp
 have HIx:=hj_ (fun wk (hB:Below W.heap.size W wk) (hl:shX.In wk A n l)=>(show Rt 58 #[.slice A n c,.func (.func 273) #[] #[.pointer (some ⟨w.heap.size+1,0,none⟩),.pointer (some ⟨w.heap.size+1+1,0,none⟩)]] wk (.int .i64 (idxP l u v)) from
  qbo 273 #[.pointer (some ⟨w.heap.size+1,0,none⟩),.pointer (some ⟨w.heap.size+1+1,0,none⟩)] (fun x=>decide (x.ch=u) && decide (x.pt=v)) A n c l wk (enters_of func273 k_ rfl) hl hn
   (fun i h W' hW'=>qu4 l[i] _ _ u v W' (by have:=hB.size;have:=hW'.size;omega) (by have:=hB.size;have:=hW'.size;omega) (HK.out W' (ht_ hB hW')).2.2.1 (HK.out W' (ht_ hB hW')).2.2.2)))
 generalize idxP l u v=k at *;have HL:=hj_ (hl.below HB0.out);clear hl hn hs
 go_enter func225,ntmps225
 go_wp2_with fail;rw [← HW.out];refine uq_ (HIx.out _ hB (HL.out.below hB)) hB fun wk hB=>?_;go_wp2_with fail;go_ret;exact ⟨rfl,ht_ HB0.out hB⟩
def SlI (A:Option Addr) (n c b:Nat) (w wr:World) (S:Nat) (f:Int→Int):Prop :=
 Below S w wr∧Cells wr S [.slice A n c,.map (some b)]∧RowAt wr (S+1) (rowI fun _=>0) 281∧RowAt wr (S+1+1) (rowI f) 281
theorem SlI.below {f:Int→Int} (h:SlI A n c b w wr S f) (hb:Below wr.heap.size wr w'):SlI A n c b w w' S f:=by
 obtain ⟨h1,h2,h3,h4⟩:=h;exact ⟨h1.trans (hb.mono (oh_ h2.1)),h2.below hb h2.1,h3.below hb h3.lt,h4.below hb h4.lt⟩
theorem SlI.set {f g:Int→Int} (h:SlI A n c b w wr S f) {a:Nat} (v:Int) (hg:∀ i:Nat,i<513→g i=if i=a then v else f i):SlI A n c b w (wr.setCell ⟨S+1+1,a,none⟩ (.int .i64 v)) S g:=by
 obtain ⟨h1,h2,h3,h4⟩:=h;refine ⟨h1.setCell (by show S≤S+1+1;omega) _,h2.far _ _ o_,h3.far _ _ o_,?_⟩
 rw [← qn1 f g v hg];exact h4.set a _
theorem SlI.start (A:Option Addr) (n c b:Nat) (w:World) (t:TypeId):SlI A n c b w (((w.alloc (.cells #[.slice A n c,.map (some b)] t)).alloc (.cells (rowI fun _=>0) 281)).alloc (.cells (rowI fun _=>0) 281)) w.heap.size (fun _=>0):=by
 obtain ⟨W1,h1⟩:=ex_ (w.alloc (.cells #[.slice A n c,.map (some b)] t));obtain ⟨W2,h2⟩:=ex_ (W1.alloc (.cells (rowI fun _=>0) 281))
 rw [← h1,← h2];have s1:W1.heap.size=w.heap.size+1:=by rw [h1];simp
 have s2:W2.heap.size=w.heap.size+1+1:=by rw [h2];simp [s1]
 have b1:Below w.heap.size w W1:=by rw [h1];exact (br_).alloc lr_ _
 have b2:Below W1.heap.size W1 W2:=by rw [h2];exact (br_).alloc lr_ _
 have b3:Below W2.heap.size W2 (W2.alloc (.cells (rowI fun _=>0) 281)):=(br_).alloc lr_ _
 have k1:Cells W1 w.heap.size [.slice A n c,.map (some b)]:=by rw [h1];exact Cells.fresh w [.slice A n c,.map (some b)] t
 have k2:RowAt W2 (w.heap.size+1) (rowI fun _=>0) 281:=by rw [h2,← s1];exact RowAt.fresh _ _ _
 have k3:=RowAt.fresh W2 (rowI fun _=>0) 281
 rw [s2] at k3;exact ⟨b1.trans ((ht_ b2 b3).mono b1.size),(k1.below b2 k1.1).below b3 o_,k2.below b3 o_,k3⟩
theorem SlI.congr {f g:Int→Int} (h:SlI A n c b w wr S f) (hg:∀ a:Nat,a<513→f a=g a):SlI A n c b w wr S g:=by
 obtain ⟨h1,h2,h3,h4⟩:=h;exact ⟨h1,h2,h3,by rw [← qn0 hg];exact h4⟩
theorem qyr (A:Option Addr) (n c b:Nat) (P:List PC) (l:List Fx) (u:Int) (w:World) (hl:shX.In w A n l) (hn:n≤9223372036854775806) (hM:MapAt sK w b (profM P)) (hg:∀ i (h:i<l.length),FxOK P l[i]) :
  Rt 226 #[.agg #[.slice A n c,.map (some b)],.int .i64 u] w (.agg (rowI fun a=>slotK P l u a l.length)):=by
 obtain ⟨rfl,_⟩:=id hl;have HL:=hj_ hl;have HG:=hj_ hg;have HMp:=hj_ hM;have HSz:=hj_ (fun (x:Fx) (w':World) (h:MapAt sK w' b (profM P))=>qyq (.slice A l.length c) b P x w' rfl h)
 have hI0:=SlI.start A l.length c b w 219;have hz:∀ w,(zeroValue 281).run prog w=.ok (.agg (rowI fun _=>0)) w:=fun w=>k_
 obtain ⟨Z,hZ⟩:=ex_ (rowI fun _=>0)
 rw [← hZ] at hz;obtain ⟨W,hW⟩:=ex_ (((w.alloc (.cells #[.slice A l.length c,.map (some b)] 219)).alloc (.cells Z 281)).alloc (.cells Z 281));rw [← hZ,← hW] at hI0;have HZ:=hj_ hZ;have HW:=hj_ hW;have HI0:=hj_ hI0;have hu:=underlying281;have HSI:=hj_ (show (prog.info? 281).map (·.size)=some 513 by kernel_rfl)
 clear hl hg hM hI0 hZ hW
 go_enter func226,ntmps226
 go_wp2_with fail;rw [← HW.out]
 go_loopw [12] (fun iv wr=>∃ k:Nat,k≤l.length∧iv=.int .i64 k∧SlI A l.length c b w wr w.heap.size (fun a=>slotK P l u a k)) (fun iv _=>l.length-(intOf iv).toNat)
 case atStart=>exact ⟨0,Nat.zero_le _,rfl,HI0.out⟩
 case round =>
  obtain ⟨k,hk,rfl,hI⟩:=hrel;have HI:=hj_ hI;obtain ⟨hb,h2,h3,h4⟩:=hI;have r0:=h2.at_ (j:=0) rfl
  have r1:=h2.at_ (j:=1) rfl
  have hs3:=h4.lt;have n0:w.heap.size<wr.heap.size:=o_
  have n1:¬ w.heap.size=wr.heap.size:=o_
  have n2:w.heap.size+1<wr.heap.size:=o_
  have n3:¬ w.heap.size+1=wr.heap.size:=o_
  have n4:¬ w.heap.size+1+1=wr.heap.size:=o_
  have HB:=hj_ hb;have h3':=h3;have h4':=h4;clear h2 h3 h4
  by_cases hlt:k<l.length
  case pos =>
   obtain ⟨b',o,rfl,hbl,hcell⟩:=fx_at HL.out o_
   have hk4:=hcell k hlt;have kk:=fun (q:Nat)=>hb.cell (p:=⟨b',q,none⟩) hbl
   have hbw:b' < wr.heap.size:=o_
   have hok:=HG.out k hlt;have hst:∀ a,slotK P l u a (k+1)=if usesB P l[k] u a then (k:Int)+1 else slotK P l u a k:=fun a=>by rw [slotK,qa1 hlt]
   have hrg:=qq1 P l u;clear hcell;generalize l[k]=x at *;obtain ⟨ch,pt,pr,un,ad,ph,cb⟩:=x;obtain ⟨k0,k1,k2,k3,k4,k5,k6⟩:=hk4;have p0:=(kk _).trans k0;have p1:=(kk _).trans k1;have p2:=(kk _).trans k2;have p3:=(kk _).trans k3;have p4:=(kk _).trans k4;have p5:=(kk _).trans k5;have p6:=(kk _).trans k6;clear k0 k1 k2 k3 k4 k5 k6 kk hb h3' h4';dsimp only at p0 p1 p2 p3 p4 p5 p6;obtain ⟨hrn,hf1,hf2,-⟩:=hok;have had:1≤ad∧ad≤512:=by
    unfold qkt at hrn;simp only [Bool.and_eq_true,decide_eq_true_eq] at hrn;exact hrn.1.2
   dsimp only at hf1 hf2;have i0:(0:Int)≤(k:Int):=o_
   have i1:(k:Int)<(l.length:Int):=o_
   have w1:IntKind.i64.wrap ((k:Int)+1)=(k:Int)+1:=IntWalk.i64_in _ o_
   have HSt:=hj_ hst;obtain ⟨W1,hW1⟩:=ex_ (wr.alloc (.cells #[.int .i64 ch,.int .i64 pt,.string pr,.int .i64 un,.int .i64 ad,.int .i64 ph,.string cb] 45));have hb1:Below wr.heap.size wr W1:=by rw [hW1];exact (br_).alloc lr_ _
   have hX1:Cells W1 wr.heap.size [.int .i64 ch,.int .i64 pt,.string pr,.int .i64 un,.int .i64 ad,.int .i64 ph,.string cb]:=by rw [hW1];exact Cells.fresh wr [.int .i64 ch,.int .i64 pt,.string pr,.int .i64 un,.int .i64 ad,.int .i64 ph,.string cb] _
   have hs1:W1.heap.size=wr.heap.size+1:=by rw [hW1];simp
   have HX1:=hj_ hX1;have HI1:=hj_ (HI.out.below hb1);have HW1:=hj_ hW1;have HS1:=hj_ hs1;clear hst hrn hb1 hX1 hW1 hs1
   by_cases hun:un=u
   case neg =>
    have g1:(un == u)=false:=by simpa using hun
    have g2:(un != u)=true:=by simpa using hun
    have HC:=hj_ (show ∀ a:Nat,a<513→slotK P l u a k=slotK P l u a (k+1) from fun a _=>by
     rw [HSt.out];unfold usesB;rw [decide_eq_false (show ¬ un=u from hun)]
     simp)
    clear hun;go_wp2_with fail;rw [← HW1.out]
    go_roundw
    case rel=>exact ⟨k+1,o_,by go_num,HI1.out.congr HC.out⟩
    case measure=>simp [intOf];omega
   case pos =>
    subst hun;have g1:(un == un)=true:=s_
    have g2:(un != un)=false:=s_
    have HSx:=hj_ (show ∀ w',MapAt sK w' b (profM P)→Calls prog 274 #[.agg #[.slice (some ⟨b',o,none⟩) l.length c,.map (some b)],.agg #[.int .i64 ch,.int .i64 pt,.string pr,.int .i64 un,.int .i64 ad,.int .i64 ph,.string cb]] w' fun e w''=>e=.returned (.int .i64 (footV P pr))∧Below w'.heap.size w' w'' from HSz.out ⟨ch,pt,pr,un,ad,ph,cb⟩)
    have HUs:=hj_ (show ∀ a:Int,usesB P ⟨ch,pt,pr,un,ad,ph,cb⟩ un a=(decide (ad≤a) && decide (a<ad+footV P pr)) from fun a=>by unfold usesB;simp)
    generalize footV P pr=ft at *;obtain ⟨F,rfl⟩:∃ F:Nat,ft=F:=⟨ft.toNat,o_⟩
    go_wp2_with fail;rw [← HW1.out];refine (HSx.out _ (HMp.out.below HI1.out.1)).mono ?_;rintro e w2 ⟨rfl,hb⟩;have HI2:=hj_ (HI1.out.below hb);have HX2:=hj_ (HX1.out.below hb (by rw [HS1.out];omega))
    have HS2:=hj_ (show wr.heap.size<w2.heap.size by have:=hb.size;have:=HS1.out;omega)
    clear hb g1 g2 HSx p0 p1 p2 p3 p4 p5 p6 r0 r1;go_wp2_with fail
    go_loopw [24] (fun iv w3=>∃ i:Nat,i≤F∧iv=.int .i64 i∧SlI (some ⟨b',o,none⟩) l.length c b w w3 w.heap.size (fun a=>if ad≤a∧a<ad+(i:Int) then (k:Int)+1 else slotK P l un a k)∧Cells w3 wr.heap.size [.int .i64 ch,.int .i64 pt,.string pr,.int .i64 un,.int .i64 ad,.int .i64 ph,.string cb]) (fun iv _=>F-(intOf iv).toNat)
    case atStart=>exact ⟨0,Nat.zero_le _,rfl,HI2.out.congr (fun a _=>by rw [if_neg o_]),HX2.out⟩
    case round =>
     obtain ⟨i,hi,rfl,hI3,hX3⟩:=hrel;have HI3:=hj_ hI3;have HX3:=hj_ hX3;obtain ⟨hb3,h2,h3,h4⟩:=hI3;have q4:=hX3.at_ (j:=4) rfl
     have hs5:=hX3.1
     by_cases hil:i<F
     case pos =>
      obtain ⟨a,ha⟩:∃ a:Nat,(a:Int)=ad+(i:Int):=⟨(ad+i).toNat,o_⟩
      have ha5:a<513:=o_
      have z0:=h4.cell (qmz _ ha5);have z1:=h4.fr a;have w5:IntKind.i64.wrap (ad+(i:Int))=(a:Int):=by rw [← ha];exact IntWalk.i64_in _ o_
      have w6:IntKind.i64.wrap ((i:Int)+1)=(i:Int)+1:=IntWalk.i64_in _ o_
      have j0:(0:Int)≤(a:Int):=o_
      have j1:(a:Int)<513:=o_
      have j2:((a:Int)).toNat=a:=o_
      have j3:(i:Int)<(F:Int):=o_
      have HA:=hj_ ha;generalize (if ad≤(a:Int)∧(a:Int)<ad+(i:Int) then (k:Int)+1 else slotK P l un a k)=old at z0
      clear h2 h3 h4 hX3 hb3 ha;go_wp2_with fail
      go_roundw
      case rel =>
       refine ⟨i+1,o_,by go_num,HI3.out.set _ ?_,HX3.out.far _ _ o_⟩
       intro j hj
       have:=HA.out
       by_cases e:j=a
       ·subst e
        rw [if_pos o_,if_pos rfl]
       ·rw [if_neg e]
        by_cases e2:ad≤(j:Int)∧(j:Int)<ad+(i:Int)
        ·rw [if_pos e2,if_pos o_]
        ·rw [if_neg e2,if_neg o_]
      case measure=>simp [intOf];omega
     case neg =>
      obtain rfl:i=F:=o_
      have HC:=hj_ (show ∀ a:Nat,a<513→(if ad≤(a:Int)∧(a:Int)<ad+(i:Int) then (k:Int)+1 else slotK P l un a k)=slotK P l un a (k+1) from fun a _=>by
       rw [HSt.out,HUs.out]
       by_cases e:ad≤(a:Int)∧(a:Int)<ad+(i:Int)
       ·rw [if_pos e,decide_eq_true e.1,decide_eq_true e.2];simp
       ·rw [if_neg e]
        by_cases e1:ad≤(a:Int)
        ·rw [decide_eq_false (p:=(a:Int)<ad+(i:Int)) o_];simp
        ·rw [decide_eq_false e1];simp)
      clear h2 h3 h4 hX3 hb3;go_wp2_with fail
      go_roundw
      case rel=>exact ⟨k+1,o_,by go_num,HI3.out.congr HC.out⟩
      case measure=>simp [intOf];omega
  case neg =>
   obtain rfl:k=l.length:=o_
   have HR1:=hj_ h3';have HR2:=hj_ h4';go_wp2_with (first | (refine wpList_load_row rfl 281 _ rfl (w.heap.size+1+1) rfl 281 (rowI fun a=>slotK P l u a l.length) (0,0) _ HR2.out underlying281 rfl (by rw [qn2];exact HSI.out) ?_) | (refine wpList_store_row rfl 281 _ _ rfl (w.heap.size+1) (rowI fun a=>slotK P l u a l.length) rfl rfl 281 (rowI fun _=>0) HR1.out (by rw [qn2];exact HSI.out) (by rw [qn2,qn2]) (qmy _) ?_))
   try simp only [Exit.inBlock,Exit.then]
   refine bodyPost_ret (v:=.agg (rowI fun a=>slotK P l u a l.length)) ?_ rfl ⟨rfl,q1b HB.out (Nat.le_succ _) _⟩
   exact results_cell_row rfl _ _ (w.heap.size+1) 281 _ (0,0) _ rfl (HR1.out.setRow _) underlying281 rfl (by rw [qn2];exact HSI.out)
theorem qtu (v:Int) (w:World) :
  Rt 227 #[.int .i64 v] w (.bool (decide (0<v))):=by
 have hB:=Below.refl w.heap.size w
 go_enter func227,ntmps227
 go_wp2_with fail;go_ret;exact ⟨rfl,hB⟩
theorem q9g {P:List PC} {s:ByteArray} {p:PC} (h:pcF P s=some p):footV P s=p.ft:=by unfold footV;rw [h]
theorem qn3 {B:Nat} {f:Int→Int} {t:TypeId} (h:RowAt w B (rowI f) t) (a F:Nat) (hF:a+F≤513):Is w (some ⟨B,a,none⟩) F ((List.range F).map fun k:Nat=>f ((a:Int)+(k:Int))):=by
 refine ⟨s_,by simp [iv],fun _=>⟨B,a,rfl,h.lt,fun j u hu=>?_⟩⟩
 unfold iv at hu;have hj:j<F:=by
  have:=(List.getElem?_eq_some_iff.1 hu).1
  simpa using this
 rw [List.getElem?_map,List.getElem?_map,List.getElem?_range hj] at hu;simp at hu;subst hu
 have:=h.cell (qmz f (a:=a+j) o_)
 rw [this];simp
theorem qok {l:List Fx} {x:Fx} {i:Nat}:decide (0≤idxP (l.take i) x.ch x.pt)=(l.take i).any (sameP x):=by
 unfold idxP;rw [qbe]
 rfl
theorem qtv (A:Option Addr) (n c b:Nat) (P:List PC) (l:List Fx) (i:Nat) (w:World) (hl:shX.In w A n l) (hi:i<l.length) (hnc:n≤c) (hc:c≤9223372036854775807) (hM:MapAt sK w b (profM P)) (hg:∀ j (h:j<l.length),j<i→FxOK P l[j]) (hcb:l[i].cb.size≤9223372036854775807) :
  Rt 158 #[.agg #[.slice A n c,.map (some b)],.int .i64 i] w (.int .i64 (fxE P l i)):=by
 have hnl:=hl.1;have hF:fxE P l i=if qkt l[i]=false then 2 else if l[i].cb.size≠0∧nmB l[i].cb=false then 8 else if pcF P l[i].pr=none then 6 else if footV P l[i].pr<1∨513-l[i].ad<footV P l[i].pr then 2 else if 0≤idxP (l.take i) l[i].ch l[i].pt then 7 else if (l.take i).any (overB P l[i]) then 10 else 0:=by
  unfold fxE;rw [qa1 hi,← qok];simp only [decide_eq_true_eq]
 have hov:=fun (h1:1≤footV P l[i].pr) (F:Nat) (hF:(F:Int)=footV P l[i].pr)=>qfo (P:=P) (l:=l) (x:=l[i]) (n:=i) o_ h1 (fun j hj=>by rw [qa1 o_];exact (hg j o_ hj).2.1) F hF
 have hHT:∀ w',Below w.heap.size w w'→shX.In w' A i (l.take i):=fun w' h=>(hl.below h).take i o_
 have HT:=hj_ hHT;have hlk:=qde P l[i].pr;have hq:=q9f P l[i].pr;have hrng:=fun (h:qkt l[i]=true)=>show 1≤l[i].ad∧l[i].ad≤512 from by
  unfold qkt at h;simp only [Bool.and_eq_true,decide_eq_true_eq] at h;exact h.1.2
 have HNu:=hj_ (fun w'=>qy0 l[i] w')
 have HNm:=hj_ (fun w'=>qu6 l[i].cb w' hcb)
 have HIx:=hj_ (fun w' h=>qu3 A i c (.map (some b)) (l.take i) l[i].ch l[i].pt w' rfl h o_)
 have hSlt:∀ w',shX.In w' A i (l.take i)→MapAt sK w' b (profM P)→Calls prog 226 #[.agg #[.slice A i c,.map (some b)],.int .i64 l[i].un] w' fun e w''=>e=.returned (.agg (rowI fun a=>slotK P l l[i].un a i))∧Below w'.heap.size w' w'':=fun w' h1 h2=>by
  have h:=qyr A i c b P (l.take i) l[i].un w' h1 o_ h2 (fun j hj=>by
   rw [List.getElem_take];rw [List.length_take] at hj;exact hg j o_ o_)
  have e:∀ k,k≤i→∀ a,slotK P (l.take i) l[i].un a k=slotK P l l[i].un a k:=fun k=>by
   induction k with
   | zero=>intro _ _;rfl
   | succ k ih =>
    intro hk a;rw [slotK,slotK,ih o_,qa1 (by rw [List.length_take];omega),qa1 o_,List.getElem_take]
  rw [show (l.take i).length=i by rw [List.length_take];omega,show (fun a=>slotK P (l.take i) l[i].un a i)=fun a=>slotK P l l[i].un a i from funext fun a=>e i lr_ a] at h
  exact h
 have HSl:=hj_ hSlt;obtain ⟨E,hE⟩:=xe_ (fxE P l i);rw [hE] at hF ⊢;obtain ⟨b',o,rfl,hbl,hcell⟩:=fx_at hl o_
 have hk:=hcell i hi;clear hcell hSlt hHT hcb hg hE;generalize (l.take i).any (overB P l[i])=ov at *;generalize idxP (l.take i) l[i].ch l[i].pt=K at *;generalize l[i]=x at *;obtain ⟨ch,pt,pr,un,ad,ph,cb⟩:=x;obtain ⟨p0,p1,p2,p3,p4,p5,p6⟩:=hk;replace HNu:=hj_ (show ∀ w',Calls prog 223 #[.agg #[.int .i64 ch,.int .i64 pt,.string pr,.int .i64 un,.int .i64 ad,.int .i64 ph,.string cb]] w' fun e w''=>e=.returned (.bool (qkt ⟨ch,pt,pr,un,ad,ph,cb⟩))∧Below w'.heap.size w' w'' from HNu.out)
 dsimp only at p0 p1 p2 p3 p4 p5 p6 hF hov hlk hq hrng HNm HIx HSl;generalize qkt ⟨ch,pt,pr,un,ad,ph,cb⟩=q1 at *;generalize nmB cb=q2 at *;obtain ⟨R,hR⟩:=ex_ (rowI fun a=>slotK P l un a i)
 rw [← hR] at HSl;have HR:=hj_ hR;have HRz:=hj_ (show R.size=513 by rw [hR,qn2])
 have hz:∀ w,(zeroValue 281).run prog w=.ok (.agg (rowI fun _=>0)) w:=fun w=>k_
 obtain ⟨Z,hZ⟩:=ex_ (rowI fun _=>0)
 rw [← hZ] at hz;have HZz:=hj_ (show Z.size=513 by rw [hZ,qn2])
 clear hZ;have hu:=underlying281;have HSI:=hj_ (show (prog.info? 281).map (·.size)=some 513 by kernel_rfl)
 have i0:(0:Int)≤(i:Int):=o_
 have i1:(i:Int)<(n:Int):=o_
 have i2:(i:Int)≤(c:Int):=o_
 have i3:i≤c:=o_
 have n1:¬ b' = w.heap.size:=o_
 have n2:b' < w.heap.size+1:=o_
 obtain ⟨W,HW,HB0,HK⟩:=bx2_7 w (.slice (some ⟨b',o,none⟩) n c) (.map (some b)) 219 (.int .i64 ch) (.int .i64 pt) (.string pr) (.int .i64 un) (.int .i64 ad) (.int .i64 ph) (.string cb) 45;have hB:=Below.refl W.heap.size W;obtain ⟨c0,c1,c2,c3,c4,c5,c6,c7,c8⟩:=HK.out W hB;have HM:=hj_ (fun (w':World) (h:Below W.heap.size W w')=>(hM.below HB0.out).below h)
 replace HT:=hj_ (fun (w':World) (h:Below W.heap.size W w')=>HT.out w' (ht_ HB0.out h))
 have HF:=hj_ hF;have HOv:=hj_ hov;have HZ:=hj_ (show ∀ w,(zeroValue 87).run prog w=.ok pc0.val w from fun w=>k_)
 obtain ⟨kn,hkn⟩:=xe_ ((lookL (profM P) pr).isSome);have HKn:=hj_ (show kn=false→pcF P pr=none from fun h=>by rw [← hkn,hlk] at h;simpa using h)
 have HKs:=hj_ (show kn=true→¬ pcF P pr=none∧footV P pr=((pcF P pr).getD pc0).ft from fun h=>by
  rw [← hkn,hlk] at h;obtain ⟨p,hp⟩:=Option.isSome_iff_exists.1 h;have hp':pcF P pr≠none:=fun e=>by rw [e] at hp;cases hp
  exact ⟨hp',q9e P pr⟩)
 generalize hqq:(pcF P pr).getD pc0=q at *;obtain ⟨qs,qf,qw,qA,qn,qc⟩:=q;have HLk:=hj_ hkn;have HQ:=hj_ hq;have HRn:=hj_ hrng;have HSW:=hj_ (show W.heap.size=w.heap.size+2 by rw [HW.out];simp)
 clear hR hF hov hlk hq hrng hM hl hnl hkn hqq
 go_enter func158,ntmps158
 go_wp2_with fail;rw [← HW.out];refine uq_ (HNu.out _) hB fun wk hB=>?_;obtain ⟨c0,c1,c2,c3,c4,c5,c6,c7,c8⟩:=HK.out _ hB;have hF:=HF.out
 cases q1 with
 | false =>
  rw [if_pos rfl] at hF;subst hF;go_wp2_with fail;go_ret;exact ⟨rfl,ht_ HB0.out hB⟩
 | true =>
  rw [if_neg d_] at hF
  have had:=HRn.out rfl;obtain ⟨a,rfl⟩:∃ a:Nat,ad=a:=⟨ad.toNat,o_⟩
  by_cases hcz:cb.size=0
  ·have hnl:cb.toList=[]:=by
    rw [ByteArray.toList_eq];exact List.eq_nil_of_length_eq_zero (by simpa using hcz)
   rw [if_neg (fun h=>h.1 hcz)] at hF
   have hsz:=hB.size;have hsW:=HSW.out;have n5:w.heap.size+1<wk.heap.size:=o_
   have n6:¬ w.heap.size+1=wk.heap.size:=o_
   have n7:w.heap.size<wk.heap.size:=o_
   have n8:¬ w.heap.size=wk.heap.size:=o_
   clear hsz hsW;have HLV:=hj_ (show lookV true (profM P) pr pc0.val=.tuple #[.agg #[.string qs,.int .i64 qf,.int .i64 qw,.slice qA qn qc],.bool kn] by unfold lookV;rw [if_pos rfl,HQ.out,HLk.out];rfl)
   cases kn with
   | false =>
    have hpf:=HKn.out rfl;rw [if_pos hpf] at hF;subst hF;go_wp2_with (at_lookup;refine q002 _ rfl _ _ _ _ rfl _ _ underlying217 sK (KeyTy.str underlying9) b (profM P) pr rfl rfl (HM.out _ hB) pc0.val (HZ.out _) ?_;rw [HLV.out])
    go_ret;exact ⟨rfl,HB0.out.trans ((hB.alloc hB.size _).mono HB0.out.size)⟩
   | true =>
    obtain ⟨hpf,hfo⟩:=HKs.out rfl;rw [if_neg hpf,hfo] at hF;have HOv2:=hj_ (HOv.out);rw [hfo] at HOv2;clear hpf hfo;obtain ⟨W2,hW2⟩:=ex_ (wk.alloc (.cells #[.string qs,.int .i64 qf,.int .i64 qw,.slice qA qn qc] 87));obtain ⟨hb2,hK2⟩:=box1 #[.string qs,.int .i64 qf,.int .i64 qw,.slice qA qn qc] 87 wk W2 hW2;have HW2:=hj_ hW2;have HB2:=hj_ (show Below W.heap.size W W2 from ht_ hB hb2)
    have HK2:=hj_ (fun (w':World) (h:Below W2.heap.size W2 w')=>hK2 w' h 1 _ rfl)
    clear hb2 hK2 hW2
    by_cases h1:qf<1
    ·rw [if_pos (.inl h1)] at hF
     subst hF;go_wp2_with (at_lookup;refine q002 _ rfl _ _ _ _ rfl _ _ underlying217 sK (KeyTy.str underlying9) b (profM P) pr rfl rfl (HM.out _ hB) pc0.val (HZ.out _) ?_;rw [HLV.out])
     rw [← HW2.out];go_ret;exact ⟨rfl,ht_ HB0.out HB2.out⟩
    by_cases h2:513-(a:Int)<qf
    ·have w5:IntKind.i64.wrap (512-(a:Int))=512-(a:Int):=IntWalk.i64_in _ o_
     have w6:IntKind.i64.wrap (512-(a:Int)+1)=513-(a:Int):=by rw [show 512-(a:Int)+1=513-(a:Int) by omega];exact IntWalk.i64_in _ o_
     rw [if_pos (.inr h2)] at hF;subst hF;go_wp2_with (at_lookup;refine q002 _ rfl _ _ _ _ rfl _ _ underlying217 sK (KeyTy.str underlying9) b (profM P) pr rfl rfl (HM.out _ hB) pc0.val (HZ.out _) ?_;rw [HLV.out])
     rw [← HW2.out];go_ret;exact ⟨rfl,ht_ HB0.out HB2.out⟩
    rw [if_neg o_] at hF
    have w5:IntKind.i64.wrap (512-(a:Int))=512-(a:Int):=IntWalk.i64_in _ o_
    have w6:IntKind.i64.wrap (512-(a:Int)+1)=513-(a:Int):=by rw [show 512-(a:Int)+1=513-(a:Int) by omega];exact IntWalk.i64_in _ o_
    obtain ⟨F,rfl⟩:∃ F:Nat,qf=F:=⟨qf.toNat,o_⟩
    go_wp2_with (at_lookup;refine q002 _ rfl _ _ _ _ rfl _ _ underlying217 sK (KeyTy.str underlying9) b (profM P) pr rfl rfl (HM.out _ hB) pc0.val (HZ.out _) ?_;rw [HLV.out])
    rw [← HW2.out];obtain ⟨Ok6,hOk6⟩:∃ Ok6:World→Nat→Prop,Ok6=fun W6 Q=>Below W2.heap.size W2 W6∧∀ w',Below W6.heap.size W6 w'→w'.cell? ⟨Q,0,none⟩=some (.slice (some ⟨b',o,none⟩) i c)∧w'.cell? ⟨Q,1,none⟩=some (.map (some b)):=⟨_,rfl⟩
    have HOk:=hj_ hOk6;clear hOk6;obtain ⟨c0,c1,c2,c3,c4,c5,c6,c7,c8⟩:=HK.out _ HB2.out;have n9:w.heap.size<W2.heap.size:=by have:=HB2.out.size;have:=HSW.out;omega
    have n10:¬ w.heap.size=W2.heap.size:=o_
    refine (fun (key:(?S:Prop))=>?main) ?kk
    case main =>
     go_region
     generalize hW6q:World.drew _=W6;have hW6:(W2.alloc (.cells #[.slice (some ⟨b',o,none⟩) i c,.map (some b)] 219)).drew=W6:=hW6q;clear hW6q;have hok:Ok6 W6 W2.heap.size:=by
      rw [HOk.out];obtain ⟨hb1,hk1⟩:=box1 #[.slice (some ⟨b',o,none⟩) i c,.map (some b)] 219 W2 _ rfl;rw [← hW6];exact ⟨hb1.drew,fun w' h=>have h':=(br_).drew.trans h;⟨hk1 w' h' 0 _ rfl,hk1 w' h' 1 _ rfl⟩⟩
     clear hW6
     revert hok
     generalize W2.heap.size=Q
     revert W6 Q
     exact key
    case kk =>
     intro W6 Q hok;rw [HOk.out] at hok;have HB6:=hj_ (show Below W.heap.size W W6 from ht_ HB2.out hok.1)
     have HK6:=hj_ (fun (w':World) (h:Below W6.heap.size W6 w')=>And.intro (hok.2 w' h) (And.intro (HK2.out w' (ht_ hok.1 h)) (HK.out w' (HB2.out.trans ((ht_ hok.1 h).mono HB2.out.size)))))
     have HB66:=hj_ (fun (w':World) (h:Below W6.heap.size W6 w')=>ht_ HB6.out h)
     clear hok HOk HK2 HK n5 n6 n7 n8 n9 n10 c0 c1 c2 c3 c4 c5 c6 c7 c8 hB i0 i1 i2 i3;have hB:=Below.refl W6.heap.size W6;obtain ⟨⟨e0,e1⟩,d1,c0,c1,c2,c3,c4,c5,c6,c7,c8⟩:=HK6.out _ hB;go_wp2_with fail;refine uq_ (HIx.out _ (HT.out _ (HB66.out _ hB))) hB fun wk hB=>?_;obtain ⟨⟨e0,e1⟩,d1,c0,c1,c2,c3,c4,c5,c6,c7,c8⟩:=HK6.out _ hB
     by_cases hK:0≤K
     ·rw [if_pos hK] at hF
      subst hF;go_wp2_with fail;go_ret;exact ⟨rfl,HB0.out.trans ((HB66.out _ hB).mono HB0.out.size)⟩
     rw [if_neg hK] at hF;go_wp2_with fail;refine uq_ (HSl.out _ (HT.out _ (HB66.out _ hB)) (HM.out _ (HB66.out _ hB))) hB fun wk hB=>?_;obtain ⟨⟨e0,e1⟩,d1,c0,c1,c2,c3,c4,c5,c6,c7,c8⟩:=HK6.out _ hB;have m1:IntKind.i64.wrap ((a:Int)+(F:Int))=(a:Int)+(F:Int):=IntWalk.i64_in _ o_
     have m2:(0:Int)≤(a:Int):=o_
     have m3:(a:Int)≤(a:Int)+(F:Int):=o_
     have m4:(a:Int)+(F:Int)≤513:=o_
     obtain ⟨W9,hW9⟩:=ex_ (wk.alloc (.cells R 281));have hb9:Below wk.heap.size wk W9:=by rw [hW9];exact (br_).alloc lr_ _
     have HR9:=hj_ (show RowAt W9 wk.heap.size R 281 by rw [hW9];exact RowAt.fresh _ _ _)
     have HW9:=hj_ hW9;have HB9:=hj_ (ht_ hB hb9);clear hW9 hb9;obtain ⟨⟨g0,g1⟩,h1,g2,g3,g4,g5,g6,g7,g8,g9,g10⟩:=HK6.out _ HB9.out;go_wp2_with (refine wpList_store_row rfl 281 _ _ rfl wk.heap.size R rfl rfl 281 Z (heap_alloc_last _ _) (by rw [HRz.out];exact HSI.out) (by rw [HRz.out,HZz.out]) (by rw [HR.out];exact qmy _) ?_;rw [World.setRow_alloc_new,← HW9.out])
     have hCn:=q3v 227 #[] (fun v=>decide (0<v)) (some ⟨wk.heap.size,a,none⟩) F (513-a) ((List.range F).map fun k:Nat=>slotK P l un ((a:Int)+(k:Int)) i) W9 (enters_of func227 k_ rfl) (by have h:=HR9.out;rw [HR.out] at h;exact qn3 h a F o_) o_ (fun j h W' hW'=>qtu _ W')
     rw [show ((List.range F).map fun k:Nat=>slotK P l un ((a:Int)+(k:Int)) i).any (fun v=>decide (0<v))=ov by rw [List.any_map];exact HOv2.out o_ F rfl] at hCn
     refine hCn.mono ?_;rintro e w5 ⟨rfl,hb⟩;have HB5:=hj_ (HB66.out _ (ht_ HB9.out hb));clear hb hCn
     cases ov with
     | true =>
      rw [if_pos rfl] at hF;subst hF;go_wp2_with fail;go_ret;exact ⟨rfl,ht_ HB0.out HB5.out⟩
     | false =>
      rw [if_neg Bool.false_ne_true] at hF;subst hF;go_wp2_with fail;go_ret;exact ⟨rfl,ht_ HB0.out HB5.out⟩
  ·have hne:¬ cb.toList=[]:=fun e=>by
    rw [ByteArray.toList_eq] at e;exact hcz (show cb.data.size=0 by simpa using congrArg List.length e)
   have hem:cb.toList.isEmpty=false:=by
    cases h:cb.toList with
    | nil=>exact absurd h hne
    | cons=>rfl
   go_wp2_with fail;refine uq_ (HNm.out _) hB fun wk hB=>?_;obtain ⟨c0,c1,c2,c3,c4,c5,c6,c7,c8⟩:=HK.out _ hB
   cases q2 with
   | false =>
    rw [if_pos ⟨hcz,rfl⟩] at hF;subst hF;go_wp2_with fail;go_ret;exact ⟨rfl,ht_ HB0.out hB⟩
   | true =>
    rw [if_neg (fun h=>absurd h.2 d_)] at hF
    have hsz:=hB.size;have hsW:=HSW.out;have n5:w.heap.size+1<wk.heap.size:=o_
    have n6:¬ w.heap.size+1=wk.heap.size:=o_
    have n7:w.heap.size<wk.heap.size:=o_
    have n8:¬ w.heap.size=wk.heap.size:=o_
    clear hsz hsW;have HLV:=hj_ (show lookV true (profM P) pr pc0.val=.tuple #[.agg #[.string qs,.int .i64 qf,.int .i64 qw,.slice qA qn qc],.bool kn] by unfold lookV;rw [if_pos rfl,HQ.out,HLk.out];rfl)
    cases kn with
    | false =>
     have hpf:=HKn.out rfl;rw [if_pos hpf] at hF;subst hF;go_wp2_with (at_lookup;refine q002 _ rfl _ _ _ _ rfl _ _ underlying217 sK (KeyTy.str underlying9) b (profM P) pr rfl rfl (HM.out _ hB) pc0.val (HZ.out _) ?_;rw [HLV.out])
     go_ret;exact ⟨rfl,HB0.out.trans ((hB.alloc hB.size _).mono HB0.out.size)⟩
    | true =>
     obtain ⟨hpf,hfo⟩:=HKs.out rfl;rw [if_neg hpf,hfo] at hF;have HOv2:=hj_ (HOv.out);rw [hfo] at HOv2;clear hpf hfo;obtain ⟨W2,hW2⟩:=ex_ (wk.alloc (.cells #[.string qs,.int .i64 qf,.int .i64 qw,.slice qA qn qc] 87));obtain ⟨hb2,hK2⟩:=box1 #[.string qs,.int .i64 qf,.int .i64 qw,.slice qA qn qc] 87 wk W2 hW2;have HW2:=hj_ hW2;have HB2:=hj_ (show Below W.heap.size W W2 from ht_ hB hb2)
     have HK2:=hj_ (fun (w':World) (h:Below W2.heap.size W2 w')=>hK2 w' h 1 _ rfl)
     clear hb2 hK2 hW2
     by_cases h1:qf<1
     ·rw [if_pos (.inl h1)] at hF
      subst hF;go_wp2_with (at_lookup;refine q002 _ rfl _ _ _ _ rfl _ _ underlying217 sK (KeyTy.str underlying9) b (profM P) pr rfl rfl (HM.out _ hB) pc0.val (HZ.out _) ?_;rw [HLV.out])
      rw [← HW2.out];go_ret;exact ⟨rfl,ht_ HB0.out HB2.out⟩
     by_cases h2:513-(a:Int)<qf
     ·have w5:IntKind.i64.wrap (512-(a:Int))=512-(a:Int):=IntWalk.i64_in _ o_
      have w6:IntKind.i64.wrap (512-(a:Int)+1)=513-(a:Int):=by rw [show 512-(a:Int)+1=513-(a:Int) by omega];exact IntWalk.i64_in _ o_
      rw [if_pos (.inr h2)] at hF;subst hF;go_wp2_with (at_lookup;refine q002 _ rfl _ _ _ _ rfl _ _ underlying217 sK (KeyTy.str underlying9) b (profM P) pr rfl rfl (HM.out _ hB) pc0.val (HZ.out _) ?_;rw [HLV.out])
      rw [← HW2.out];go_ret;exact ⟨rfl,ht_ HB0.out HB2.out⟩
     rw [if_neg o_] at hF
     have w5:IntKind.i64.wrap (512-(a:Int))=512-(a:Int):=IntWalk.i64_in _ o_
     have w6:IntKind.i64.wrap (512-(a:Int)+1)=513-(a:Int):=by rw [show 512-(a:Int)+1=513-(a:Int) by omega];exact IntWalk.i64_in _ o_
     obtain ⟨F,rfl⟩:∃ F:Nat,qf=F:=⟨qf.toNat,o_⟩
     go_wp2_with (at_lookup;refine q002 _ rfl _ _ _ _ rfl _ _ underlying217 sK (KeyTy.str underlying9) b (profM P) pr rfl rfl (HM.out _ hB) pc0.val (HZ.out _) ?_;rw [HLV.out])
     rw [← HW2.out];obtain ⟨Ok6,hOk6⟩:∃ Ok6:World→Nat→Prop,Ok6=fun W6 Q=>Below W2.heap.size W2 W6∧∀ w',Below W6.heap.size W6 w'→w'.cell? ⟨Q,0,none⟩=some (.slice (some ⟨b',o,none⟩) i c)∧w'.cell? ⟨Q,1,none⟩=some (.map (some b)):=⟨_,rfl⟩
     have HOk:=hj_ hOk6;clear hOk6;obtain ⟨c0,c1,c2,c3,c4,c5,c6,c7,c8⟩:=HK.out _ HB2.out;have n9:w.heap.size<W2.heap.size:=by have:=HB2.out.size;have:=HSW.out;omega
     have n10:¬ w.heap.size=W2.heap.size:=o_
     refine (fun (key:(?S2:Prop))=>?main2) ?kk2
     case main2 =>
      go_region
      generalize hW6q:World.drew _=W6;have hW6:(W2.alloc (.cells #[.slice (some ⟨b',o,none⟩) i c,.map (some b)] 219)).drew=W6:=hW6q;clear hW6q;have hok:Ok6 W6 W2.heap.size:=by
       rw [HOk.out];obtain ⟨hb1,hk1⟩:=box1 #[.slice (some ⟨b',o,none⟩) i c,.map (some b)] 219 W2 _ rfl;rw [← hW6];exact ⟨hb1.drew,fun w' h=>have h':=(br_).drew.trans h;⟨hk1 w' h' 0 _ rfl,hk1 w' h' 1 _ rfl⟩⟩
      clear hW6
      revert hok
      generalize W2.heap.size=Q
      revert W6 Q
      exact key
     case kk2 =>
      intro W6 Q hok;rw [HOk.out] at hok;have HB6:=hj_ (show Below W.heap.size W W6 from ht_ HB2.out hok.1)
      have HK6:=hj_ (fun (w':World) (h:Below W6.heap.size W6 w')=>And.intro (hok.2 w' h) (And.intro (HK2.out w' (ht_ hok.1 h)) (HK.out w' (HB2.out.trans ((ht_ hok.1 h).mono HB2.out.size)))))
      have HB66:=hj_ (fun (w':World) (h:Below W6.heap.size W6 w')=>ht_ HB6.out h)
      clear hok HOk HK2 HK n5 n6 n7 n8 n9 n10 c0 c1 c2 c3 c4 c5 c6 c7 c8 hB i0 i1 i2 i3;have hB:=Below.refl W6.heap.size W6;obtain ⟨⟨e0,e1⟩,d1,c0,c1,c2,c3,c4,c5,c6,c7,c8⟩:=HK6.out _ hB;go_wp2_with fail;refine uq_ (HIx.out _ (HT.out _ (HB66.out _ hB))) hB fun wk hB=>?_;obtain ⟨⟨e0,e1⟩,d1,c0,c1,c2,c3,c4,c5,c6,c7,c8⟩:=HK6.out _ hB
      by_cases hK:0≤K
      ·rw [if_pos hK] at hF
       subst hF;go_wp2_with fail;go_ret;exact ⟨rfl,HB0.out.trans ((HB66.out _ hB).mono HB0.out.size)⟩
      rw [if_neg hK] at hF;go_wp2_with fail;refine uq_ (HSl.out _ (HT.out _ (HB66.out _ hB)) (HM.out _ (HB66.out _ hB))) hB fun wk hB=>?_;obtain ⟨⟨e0,e1⟩,d1,c0,c1,c2,c3,c4,c5,c6,c7,c8⟩:=HK6.out _ hB;have m1:IntKind.i64.wrap ((a:Int)+(F:Int))=(a:Int)+(F:Int):=IntWalk.i64_in _ o_
      have m2:(0:Int)≤(a:Int):=o_
      have m3:(a:Int)≤(a:Int)+(F:Int):=o_
      have m4:(a:Int)+(F:Int)≤513:=o_
      obtain ⟨W9,hW9⟩:=ex_ (wk.alloc (.cells R 281));have hb9:Below wk.heap.size wk W9:=by rw [hW9];exact (br_).alloc lr_ _
      have HR9:=hj_ (show RowAt W9 wk.heap.size R 281 by rw [hW9];exact RowAt.fresh _ _ _)
      have HW9:=hj_ hW9;have HB9:=hj_ (ht_ hB hb9);clear hW9 hb9;obtain ⟨⟨g0,g1⟩,h1,g2,g3,g4,g5,g6,g7,g8,g9,g10⟩:=HK6.out _ HB9.out;go_wp2_with (refine wpList_store_row rfl 281 _ _ rfl wk.heap.size R rfl rfl 281 Z (heap_alloc_last _ _) (by rw [HRz.out];exact HSI.out) (by rw [HRz.out,HZz.out]) (by rw [HR.out];exact qmy _) ?_;rw [World.setRow_alloc_new,← HW9.out])
      have hCn:=q3v 227 #[] (fun v=>decide (0<v)) (some ⟨wk.heap.size,a,none⟩) F (513-a) ((List.range F).map fun k:Nat=>slotK P l un ((a:Int)+(k:Int)) i) W9 (enters_of func227 k_ rfl) (by have h:=HR9.out;rw [HR.out] at h;exact qn3 h a F o_) o_ (fun j h W' hW'=>qtu _ W')
      rw [show ((List.range F).map fun k:Nat=>slotK P l un ((a:Int)+(k:Int)) i).any (fun v=>decide (0<v))=ov by rw [List.any_map];exact HOv2.out o_ F rfl] at hCn
      refine hCn.mono ?_;rintro e w5 ⟨rfl,hb⟩;have HB5:=hj_ (HB66.out _ (ht_ HB9.out hb));clear hb hCn
      cases ov with
      | true =>
       rw [if_pos rfl] at hF;subst hF;go_wp2_with fail;go_ret;exact ⟨rfl,ht_ HB0.out HB5.out⟩
      | false =>
       rw [if_neg Bool.false_ne_true] at hF;subst hF;go_wp2_with fail;go_ret;exact ⟨rfl,ht_ HB0.out HB5.out⟩
theorem qy1 (A:Option Addr) (n c:Nat) (A':Option Addr) (n' c':Nat) (P:List PC) (l:List Fx) (w:World) (hl:shX.In w A n l) (hnc:n≤c) (hc:c≤9223372036854775807) (hp:shPr.In w A' n' P) (hn':n'≤9223372036854775806) (hcb:∀ x ∈ l,x.cb.size≤9223372036854775807) :
  Rt 109 #[.slice A n c,.slice A' n' c'] w (.int .i64 (patE P l)):=by
 obtain ⟨rfl,_⟩:=id hl;obtain ⟨rfl,_⟩:=id hp;have hB:=Below.refl w.heap.size w;have hE:patE P l=if 32<P.length∨64<l.length then 5 else firstE (fxE P l) l.length:=rfl
 obtain ⟨E,hE2⟩:=xe_ (patE P l);rw [hE2] at hE ⊢;have HNr:=hj_ (fun w h=>qu7 A l.length c A' P.length c' P w h hn')
 have HCk:=hj_ (fun (b i:Nat) (hi:i<l.length) w h1 h2 h3=>qtv A l.length c b P l i w h1 hi hnc hc h2 h3 (hcb _ (List.getElem_mem hi)))
 have HL:=hj_ hl;have HP:=hj_ hp;clear hl hp hcb hnc hc hE2
 by_cases h1:32<P.length
 ·rw [if_pos (.inl h1)] at hE
  subst hE;have g1:(32:Int)<(P.length:Int):=o_
  go_enter func109,ntmps109
  go_wp2_with fail;go_ret;exact ⟨rfl,hB⟩
 have g1:¬ (32:Int)<(P.length:Int):=o_
 by_cases h2:64<l.length
 ·rw [if_pos (.inr h2)] at hE
  subst hE;have g2:(64:Int)<(l.length:Int):=o_
  go_enter func109,ntmps109
  go_wp2_with fail;go_ret;exact ⟨rfl,hB⟩
 have g2:¬ (64:Int)<(l.length:Int):=o_
 rw [if_neg o_] at hE
 have HE:=hj_ hE;clear hE h1
 go_enter func109,ntmps109
 go_wp2_with fail;refine (HNr.out _ HP.out).mono ?_;rintro e wk ⟨b,rfl,hb1,hM,hb⟩;obtain ⟨W2,hW2⟩:=ex_ (wk.alloc (.cells #[.slice A l.length c,.map (some b)] 219));have hb2:Below wk.heap.size wk W2:=by rw [hW2];exact (br_).alloc lr_ _
 have HX2:=hj_ (show Cells W2 wk.heap.size [.slice A l.length c,.map (some b)] by rw [hW2];exact Cells.fresh wk [.slice A l.length c,.map (some b)] _)
 have HB2:=hj_ (show Below w.heap.size w W2 from ht_ hb hb2)
 have HM2:=hj_ (hM.below hb2);have HW2:=hj_ hW2;have HBk:=hj_ hb;clear hb hb1 hb2 hM hW2 hB;go_wp2_with fail;rw [← HW2.out]
 go_loopw [21] (fun iv wr=>∃ k:Nat,k≤l.length∧iv=.int .i64 k∧(∀ j,j<k→fxE P l j=0)∧Below w.heap.size w wr∧Cells wr wk.heap.size [.slice A l.length c,.map (some b)]∧MapAt sK wr b (profM P)) (fun iv _=>l.length-(intOf iv).toNat)
 case atStart=>exact ⟨0,Nat.zero_le _,rfl,fun j h=>absurd h (Nat.not_lt_zero _),HB2.out,HX2.out,HM2.out⟩
 case round =>
  obtain ⟨k,hk,rfl,hall,hB,hX,hM⟩:=hrel;have HAll:=hj_ hall;have HX:=hj_ hX;have HM:=hj_ hM;have q0:=hX.at_ (j:=0) rfl
  have q1:=hX.at_ (j:=1) rfl
  clear hall hX hM
  by_cases hlt:k<l.length
  case pos =>
   have i0:(0:Int)≤(k:Int):=o_
   have i1:(k:Int)<(l.length:Int):=o_
   have w0:IntKind.i64.wrap ((k:Int)+1)=(k:Int)+1:=IntWalk.i64_in _ o_
   have HCj:=hj_ (fun w h1 h2=>HCk.out b k hlt w h1 h2 (fun j hj hjk=>by
    have:=(fx_ok (HAll.out j hjk)).1
    rw [qa1 hj] at this;exact this))
   have hSome:=hj_ (fun (h:fxE P l k≠0)=>HE.out.trans (q87 HAll.out h hlt))
   have hZero:=hj_ (fun (h:fxE P l k=0)=>q88 HAll.out h)
   generalize fxE P l k=x at *
   by_cases hx:x=0
   ·subst hx
    have HN:=hj_ (hZero.out rfl);go_wp2_with fail;refine (HCj.out _ (HL.out.below hB) HM.out).mono ?_;rintro e w5 ⟨rfl,hb⟩;have HXn:=hj_ (HX.out.below hb HX.out.1);have HMn:=hj_ (HM.out.below hb);replace hB:=ht_ hB hb;clear hb;go_wp2_with fail
    go_roundw
    case rel=>exact ⟨k+1,hlt,by go_num,HN.out,hB,HXn.out,HMn.out⟩
    case measure=>simp [intOf];omega
   ·have he:=hSome.out hx
    subst he;have g3:(E == 0)=false:=by simpa using hx
    have g4:(E != 0)=true:=by simpa using hx
    go_wp2_with fail;refine uq_ (HCj.out _ (HL.out.below hB) HM.out) hB fun w5 hB=>?_;go_wp2_with fail;go_ret;exact ⟨rfl,hB⟩
  case neg =>
   obtain rfl:k=l.length:=o_
   have hz:E=0:=by rw [HE.out];exact q86 HAll.out
   subst hz;go_wp2_with fail;go_ret;exact ⟨rfl,hB⟩
end Go.Proofs.YtabhjdmmfdfpeaaGreatDoor
