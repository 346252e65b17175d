/- UniverseRises: for every input the law returns true, and its arguments read behind the call as they read before. The package variables that the row lists hold what the program's text lays. -/
import Derived.Test.YtbfikenbgfnfiaaGreatDoorMUniI
import Derived.Test.YtbfikenbgfnfiaaGreatDoorMUniD
import Derived.Test.YtbfikenbgfnfiaaGreatDoorMUniG
import Derived.Test.YtbfikenbgfnfiaaGreatDoorMUniK
import Derived.Test.YtbfikenbgfnfiaaGreatDoorRUniN
import Derived.Test.YtbfikenbgfnfiaaGreatDoorRUniO
import Derived.Test.YtbfikenbgfnfiaaGreatDoorMRat
import Derived.Test.YtbfikenbgfnfiaaGreatDoorMLaw
import Derived.Test.YtbfikenbgfnfiaaGreatDoorHUniverseRises
import Derived.Test.YtbfikenbgfnfiaaGreatDoorCards
import Derived.Test.YtbfikenbgfnfiaaGreatDoorTie
import Derived.SevenTiedAt
import Derived.SizedLaws
import Derived.Test.YtbfikenbgfnfiaaGreatDoorMUp
namespace Go.Proofs.YtbfikenbgfnfiaaGreatDoor
set_option maxHeartbeats 32000000
set_option maxRecDepth 100000
open _root_.Go.Proofs.Tryz
open Go.RowKit
theorem amf_at (W:World) (s:Nat) (hs:s=W.heap.size) (ch at_:Int) (lev:ByteArray):shAm.In (W.alloc (.cells #[.int .i64 ch,.int .i64 at_,.string lev] 46)) (some ⟨s,0,none⟩) 1 [⟨ch,at_,lev⟩]∧Below W.heap.size W (W.alloc (.cells #[.int .i64 ch,.int .i64 at_,.string lev] 46)):=by
 subst hs;exact ⟨q0h W [⟨ch,at_,lev⟩] 1 rfl,(br_).alloc (Nat.le_refl _) _⟩
theorem q072 (w:World) (g:RG) (H:List Hd) (L:List (List PT)) (PL:List (PC × List Fea)) (X:List Fx) (hg:g.Is w H L PL X) (ch at_:Int) (lev:ByteArray) (ch' at':Int) (lev':ByteArray) (ht:Tab w) (hr:Rng w) :
  Calls Tryz.prog 7 #[.agg g.cs.toArray,.agg #[.int .i64 ch,.int .i64 at_,.string lev],.agg #[.int .i64 ch',.int .i64 at',.string lev']] w fun e w'=>e=.returned (.bool true)∧Below w.heap.size w w':=by
 obtain ⟨A0,n0,d0,A1,n1,d1,A2,n2,d2⟩:=g;show Calls Tryz.prog 7 #[.agg #[.slice A0 n0 d0,.slice A1 n1 d1,.slice A2 n2 d2],.agg #[.int .i64 ch,.int .i64 at_,.string lev],.agg #[.int .i64 ch',.int .i64 at',.string lev']] w fun e w'=>e=.returned (.bool true)∧Below w.heap.size w w'
 have hn1l:n1=PL.length:=by have:=hg.2.1.1.1.1;simpa using this
 obtain rfl:n2=X.length:=hg.2.2.1.1;have HRt:=hj_ (fun (A:Option Addr) (l:List Am) (c:Nat) w h1 (h2:shAm.In w A 1 l)=>qch A0 n0 d0 A1 n1 d1 A2 X.length d2 H L PL X A 1 c l w h1 h2 (by decide))
 have HAw:=hj_ (fun w ht hr=>qtq w ht hr)
 have HG:=hj_ hg;have HT:=hj_ ht;have HRg:=hj_ hr;have HN1:=hj_ hn1l;have HUf:=hj_ (fun (B:Option Addr) (k d:Nat) (q:List Am) (hf:fewRg L PL X.length=true) (w:World) (h:RG.Is w ⟨A0,n0,d0,A1,n1,d1,A2,X.length,d2⟩ H L PL X) (h4:shAm.In w B k q) (hk:k≤9223372036854775806) (hs:∀ a ∈ q,a.lev.size≤120) ht hr=>qtn A0 n0 d0 H L A1 n1 d1 PL A2 X.length d2 X B k d q w h.1.1 h.1.2.1 h.1.2.2 (h.2.1.1.few hf) (by have h9:=(q7x hf).1;have h8:=HN1.out;omega) h.2.2.1 h.2.2.2.1.1 h.2.2.2.1.2 h.2.2.2.2 h4 hk hs ht hr)
 clear hg ht hr hn1l;obtain ⟨W,hW⟩:∃ W,W=(((w.alloc (.cells #[.slice A0 n0 d0,.slice A1 n1 d1,.slice A2 X.length d2] 26)).alloc (.cells #[.int .i64 ch,.int .i64 at_,.string lev] 46)).alloc (.cells #[.int .i64 ch',.int .i64 at',.string lev'] 46)):=⟨_,rfl⟩
 obtain ⟨hB0,hK0⟩:=box3 #[.slice A0 n0 d0,.slice A1 n1 d1,.slice A2 X.length d2] 26 #[.int .i64 ch,.int .i64 at_,.string lev] 46 #[.int .i64 ch',.int .i64 at',.string lev'] 46 w W hW
 have hK:∀ w',Below W.heap.size W w'→w'.cell? ⟨w.heap.size,0,none⟩=some (.slice A0 n0 d0)∧w'.cell? ⟨w.heap.size,1,none⟩=some (.slice A1 n1 d1)∧w'.cell? ⟨w.heap.size,2,none⟩=some (.slice A2 X.length d2)∧w'.cell? ⟨w.heap.size+1,0,none⟩=some (.int .i64 ch)∧w'.cell? ⟨w.heap.size+1,1,none⟩=some (.int .i64 at_)∧w'.cell? ⟨w.heap.size+1,2,none⟩=some (.string lev)∧w'.cell? ⟨w.heap.size+1+1,0,none⟩=some (.int .i64 ch')∧w'.cell? ⟨w.heap.size+1+1,1,none⟩=some (.int .i64 at')∧w'.cell? ⟨w.heap.size+1+1,2,none⟩=some (.string lev'):=fun w' h=>⟨(hK0 w' h).1 0 _ rfl,(hK0 w' h).1 1 _ rfl,(hK0 w' h).1 2 _ rfl,(hK0 w' h).2.1 0 _ rfl,(hK0 w' h).2.1 1 _ rfl,(hK0 w' h).2.1 2 _ rfl,(hK0 w' h).2.2 0 _ rfl,(hK0 w' h).2.2 1 _ rfl,(hK0 w' h).2.2 2 _ rfl⟩
 have HK:=hj_ hK;have HW:=hj_ hW;have HB0:=hj_ hB0;have hB:=Below.refl W.heap.size W;obtain ⟨c0,c1,c2,c3,c4,c5,c6,c7,c8⟩:=hK W hB;clear hW hB0 hK hK0;replace HG:=hj_ (HG.out.below HB0.out);replace HT:=hj_ (HT.out.below HB0.out);replace HRg:=hj_ (HRg.out.below HB0.out);have HFin:=hj_ (fun (w':World) (h:Below W.heap.size W w')=>ht_ HB0.out h)
 have hs:w.heap.size+1+1+1=W.heap.size:=by rw [HW.out];simp
 obtain ⟨hf1,hf2⟩:=amf_at W _ hs ch at_ lev
 have HF1:=hj_ hf1;have HF2:=hj_ hf2;clear hf1 hf2 hs
 cases hr1:rgtB L PL X [⟨ch,at_,lev⟩] with
 | false =>
  have HR1:=hj_ hr1;clear hr1
  go_enter Tryz.func7,Tryz.ntmps7
  go_wp2_with fail;rw [← HW.out];refine (HRt.out _ [⟨ch,at_,lev⟩] _ _ (HG.out.below HF2.out) HF1.out).mono ?_
  rintro e w1 ⟨rfl,hb⟩;rw [HR1.out];replace hB:=ht_ HF2.out hb;clear hb;go_wp2_with fail;refine uq_ (HAw.out _ (HT.out.below hB) (HRg.out.below hB)) hB ?_;clear hB;intro w2 hB;go_wp2_with fail;go_ret;exact ⟨rfl,HFin.out _ hB⟩
 | true =>
  have HR1:=hj_ hr1;clear hr1
  go_enter Tryz.func7,Tryz.ntmps7
  go_wp2_with fail;rw [← HW.out];refine (HRt.out _ [⟨ch,at_,lev⟩] _ _ (HG.out.below HF2.out) HF1.out).mono ?_
  rintro e w1 ⟨rfl,hb⟩;rw [HR1.out];replace hB:=ht_ HF2.out hb;clear hb HF1 HF2;obtain ⟨c0,c1,c2,c3,c4,c5,c6,c7,c8⟩:=HK.out _ hB;obtain ⟨hf1,hf2⟩:=amf_at w1 _ rfl ch' at' lev';have HF1:=hj_ hf1;have HF2:=hj_ (ht_ hB hf2);clear hf1 hf2;go_wp2_with fail;refine (HRt.out _ [⟨ch',at',lev'⟩] _ _ (HG.out.below HF2.out) HF1.out).mono ?_;rintro e w2 ⟨rfl,hb⟩;replace hB:=ht_ HF2.out hb;clear hb HF1 HF2
  cases hr2:rgtB L PL X [⟨ch',at',lev'⟩] with
  | false =>
   go_wp2_with fail;refine uq_ (HAw.out _ (HT.out.below hB) (HRg.out.below hB)) hB ?_;clear hB;intro w3 hB;go_wp2_with fail;go_ret;exact ⟨rfl,HFin.out _ hB⟩
  | true =>
   have HR2:=hj_ hr2;clear hr2
   by_cases hch:ch=ch'
   case neg =>
    obtain ⟨c0,c1,c2,c3,c4,c5,c6,c7,c8⟩:=HK.out _ hB;go_wp2_with fail;refine uq_ (HAw.out _ (HT.out.below hB) (HRg.out.below hB)) hB ?_;clear hB;intro w4 hB;go_wp2_with fail;go_ret;exact ⟨rfl,HFin.out _ hB⟩
   case pos =>
    subst hch
    by_cases hat:at_=at'
    case neg =>
     obtain ⟨c0,c1,c2,c3,c4,c5,c6,c7,c8⟩:=HK.out _ hB;go_wp2_with fail;refine uq_ (HAw.out _ (HT.out.below hB) (HRg.out.below hB)) hB ?_;clear hB;intro w4 hB;go_wp2_with fail;go_ret;exact ⟨rfl,HFin.out _ hB⟩
    case pos =>
     subst hat;obtain ⟨q1,q2,q3,q4⟩:=rgt_of HR1.out;have hri:=fun (w:World) (h:RG.Is w ⟨A0,n0,d0,A1,n1,d1,A2,X.length,d2⟩ H L PL X)=>q059 A0 n0 d0 H L A1 n1 d1 PL A2 X.length d2 X ch at_ w h.1.1 (h.2.1.1.few q1) (by have h9:=(q7x q1).1;have h8:=HN1.out;omega) h.2.2.1 q3 (fun c hc=>Nat.le_trans ((q6y (qu8 q3).1).2 c hc).few (by decide))
     have HRi:=hj_ hri;have HAl:=hj_ (fun (w:World) (h:RG.Is w ⟨A0,n0,d0,A1,n1,d1,A2,X.length,d2⟩ H L PL X)=>qkg A0 n0 d0 H L w h.1.1 h.1.2.1 h.1.2.2)
     have HQ3:=hj_ q3;clear hri q1 q2 q3 q4
     cases hri:riseV L PL X ch at_ with
     | false =>
      have HR3:=hj_ hri;clear hri;obtain ⟨c0,c1,c2,c3,c4,c5,c6,c7,c8⟩:=HK.out _ hB;go_wp2_with fail;refine (HRi.out _ (HG.out.below hB)).mono ?_;rintro e w3 ⟨rfl,hb⟩;rw [HR3.out];replace hB:=ht_ hB hb;clear hb;go_wp2_with fail;refine uq_ (HAw.out _ (HT.out.below hB) (HRg.out.below hB)) hB ?_;clear hB;intro w4 hB;go_wp2_with fail;go_ret;exact ⟨rfl,HFin.out _ hB⟩
     | true =>
      have HR3:=hj_ hri;clear hri;obtain ⟨c0,c1,c2,c3,c4,c5,c6,c7,c8⟩:=HK.out _ hB;go_wp2_with fail;refine (HRi.out _ (HG.out.below hB)).mono ?_;rintro e w3 ⟨rfl,hb⟩;rw [HR3.out];replace hB:=ht_ hB hb;clear hb;obtain ⟨c0,c1,c2,c3,c4,c5,c6,c7,c8⟩:=HK.out _ hB;go_wp2_with fail;refine (HAl.out _ (HG.out.below hB)).mono ?_;rintro e w4 ⟨rfl,hb⟩;rw [(qu8 HQ3.out).1];replace hB:=ht_ hB hb;clear hb;obtain ⟨c0,c1,c2,c3,c4,c5,c6,c7,c8⟩:=HK.out _ hB;obtain ⟨q1,q2,q3,q4⟩:=rgt_of HR1.out;obtain ⟨-,s2,-,s4⟩:=rgt_of HR2.out;have z1:lev.size≤80:=(q7o q2).2 _ (List.mem_singleton.2 rfl);have z2:lev'.size≤80:=(q7o s2).2 _ (List.mem_singleton.2 rfl);obtain ⟨lo,hi,cc,k1,k2,k3,k4⟩:=q05r q3 HR3.out;obtain ⟨y1,y2⟩:=k4 lev q4 z1;obtain ⟨y3,y4⟩:=k4 lev' s4 z2;obtain ⟨fe1,-,fr1,fl1⟩:=q00r q3 q4;obtain ⟨fe2,-,fr2,fl2⟩:=q00r q3 s4;have HF1:=hj_ (fun (B:Option Addr) (d:Nat) w h (h4:shAm.In w B 1 [⟨ch,at_,lev⟩]) ht hr=>HUf.out B 1 d [⟨ch,at_,lev⟩] q1 w h h4 (by decide) (fun a h=>by rw [List.mem_singleton.1 h];exact Nat.le_trans z1 (by decide)) ht hr)
      have HF2:=hj_ (fun (B:Option Addr) (d:Nat) w h (h4:shAm.In w B 1 [⟨ch,at_,lev'⟩]) ht hr=>HUf.out B 1 d [⟨ch,at_,lev'⟩] q1 w h h4 (by decide) (fun a h=>by rw [List.mem_singleton.1 h];exact Nat.le_trans z2 (by decide)) ht hr)
      rw [fe1] at HF1;rw [fe2] at HF2;obtain ⟨-,hga,-⟩:=(qa7 _).1 q4;obtain ⟨-,hgb,-⟩:=(qa7 _).1 s4;have er1:=(hga _ (List.mem_singleton.2 rfl)).2;have er2:=(hgb _ (List.mem_singleton.2 rfl)).2;have hn1':n1≤9223372036854775806:=by have h9:=(q7x q1).1;have h8:=HN1.out;omega
      generalize frV L PL X [⟨ch,at_,lev⟩]=a at *
      generalize frV L PL X [⟨ch,at_,lev'⟩]=b at *
      have hsa:∀ x ∈ a,x.sl.size≤9223372036854775807:=fun x hx=>by have:=(fr1.2 x hx).2.2;omega
      have hsb:∀ x ∈ b,x.sl.size≤9223372036854775807:=fun x hx=>by have:=(fr2.2 x hx).2.2;omega
      have HW1:=hj_ (fun (B:Option Addr) (d:Nat) (w:World) (h:RG.Is w ⟨A0,n0,d0,A1,n1,d1,A2,X.length,d2⟩ H L PL X) (hf:shFm.In w B a.length a)=>q05x A0 n0 d0 H L A1 n1 d1 PL A2 X.length d2 X B a.length d a ch at_ w h.1.1 h.1.2.1 (h.2.1.1.few q1) hn1' h.2.2.1 h.2.2.2.1.1 h.2.2.2.1.2 h.2.2.2.2 hf (by omega) hsa)
      have HW2:=hj_ (fun (B:Option Addr) (d:Nat) (w:World) (h:RG.Is w ⟨A0,n0,d0,A1,n1,d1,A2,X.length,d2⟩ H L PL X) (hf:shFm.In w B b.length b)=>q05x A0 n0 d0 H L A1 n1 d1 PL A2 X.length d2 X B b.length d b ch at_ w h.1.1 h.1.2.1 (h.2.1.1.few q1) hn1' h.2.2.1 h.2.2.2.1.1 h.2.2.2.1.2 h.2.2.2.2 hf (by omega) hsb)
      rw [y1,y2] at HW1;rw [y3,y4] at HW2
      rcases qct lev (Nat.le_trans z1 (by decide)) with ⟨e1,e2⟩ | ⟨r,f1,f2,f3,-,f5⟩
      ·exact absurd (e2.symm.trans er1) e1
      rcases qct lev' (Nat.le_trans z2 (by decide)) with ⟨e1,e2⟩ | ⟨s,g1,g2,g3,-,g5⟩
      ·exact absurd (e2.symm.trans er2) e1
      have i1:InL r:=by
       rcases f5 with ⟨-,e⟩ | ⟨e,-⟩
       ·rw [er1] at e;cases e
       ·exact e
      have i2:InL s:=by
       rcases g5 with ⟨-,e⟩ | ⟨e,-⟩
       ·rw [er2] at e;cases e
       ·exact e
      rw [f3] at HW1;rw [g3] at HW2;have HO:=hj_ (fun w=>qqg f2 g2 w (by decide) (by decide))
      rw [← f1,← g1] at HO;have HLaw:=hj_ (q05q k1 k2 k3 i1 i2);clear q1 q2 q3 q4 s2 s4 z1 z2 k1 k2 k3 k4 y1 y2 y3 y4 fe1 fe2 fr1 fr2 hga hgb er1 er2 hn1' hsa hsb f1 f2 f3 f5 g1 g2 g3 g5 i1 i2 HUf;generalize madeR lo hi cc r=V1 at *;generalize madeR lo hi cc s=V2 at *;generalize ordR r s=O at *;go_wp2_with fail;obtain ⟨hf1,hf2⟩:=amf_at w4 _ rfl ch at_ lev
      have hB1:=ht_ hB hf2;refine (HF1.out _ _ _ (HG.out.below hB1) hf1 (HT.out.below hB1) (HRg.out.below hB1)).mono ?_;rintro e w5 ⟨rr,rfl,B1,e1,rfl,ho,hb⟩;have HI1:=hj_ (Sh.In.of_own ho rfl);replace hB:=ht_ hB1 hb;clear ho hb hf1 hf2 hB1;obtain ⟨c0,c1,c2,c3,c4,c5,c6,c7,c8⟩:=HK.out _ hB;go_wp2_with fail;obtain ⟨hf1,hf2⟩:=amf_at w5 _ rfl ch at_ lev'
      have hB1:=ht_ hB hf2;refine (HF2.out _ _ _ (HG.out.below hB1) hf1 (HT.out.below hB1) (HRg.out.below hB1)).mono ?_;rintro e w6 ⟨rr,rfl,B2,e2,rfl,ho,hb⟩;have HI2:=hj_ (Sh.In.of_own ho rfl);replace HI1:=hj_ (HI1.out.below (ht_ hf2 hb));replace hB:=ht_ hB1 hb;clear ho hb hf1 hf2 hB1;obtain ⟨c0,c1,c2,c3,c4,c5,c6,c7,c8⟩:=HK.out _ hB;go_wp2_with fail;refine (HW1.out _ _ _ (HG.out.below hB) HI1.out).mono ?_;rintro e w7 ⟨rfl,hb⟩;replace HI2:=hj_ (HI2.out.below hb);replace hB:=ht_ hB hb;clear hb HI1;obtain ⟨c0,c1,c2,c3,c4,c5,c6,c7,c8⟩:=HK.out _ hB;go_wp2_with fail;refine uq_ (HW2.out _ _ _ (HG.out.below hB) HI2.out) hB ?_;clear hB HI2;intro w8 hB;obtain ⟨c0,c1,c2,c3,c4,c5,c6,c7,c8⟩:=HK.out _ hB;go_wp2_with fail;refine uq_ (HO.out _) hB ?_;clear hB;intro w9 hB;have hlaw:=HLaw.out;rw [Bool.and_eq_true,Bool.or_eq_true,Bool.or_eq_true,decide_eq_true_eq,decide_eq_true_eq,decide_eq_true_eq,decide_eq_true_eq] at hlaw;obtain ⟨hl1,hl2⟩:=hlaw;clear HLaw
      by_cases o1:0<O
      ·have o2:¬ O<0:=by omega
       have o3:V2≤V1:=hl2.resolve_left o2;clear hl1 hl2;go_wp2_with fail;refine uq_ (HAw.out _ (HT.out.below hB) (HRg.out.below hB)) hB ?_;clear hB;intro w10 hB;go_wp2_with fail;go_ret;exact ⟨rfl,HFin.out _ hB⟩
      ·have o3:V1≤V2:=hl1.resolve_left o1
       by_cases o2:O<0
       ·clear hl1 hl2
        go_wp2_with fail;refine uq_ (HAw.out _ (HT.out.below hB) (HRg.out.below hB)) hB ?_;clear hB;intro w10 hB;go_wp2_with fail;go_ret;exact ⟨rfl,HFin.out _ hB⟩
       ·have o4:V2≤V1:=hl2.resolve_left o2
        clear hl1 hl2;go_wp2_with fail;refine uq_ (HAw.out _ (HT.out.below hB) (HRg.out.below hB)) hB ?_;clear hB;intro w10 hB;go_wp2_with fail;go_ret;exact ⟨rfl,HFin.out _ hB⟩
theorem q06y (w:World) (g:RG) (hg:g.good w) (x:Am) (_:x.good) (y:Am) (_:y.good) (hL:Laid w) :
  Calls Tryz.prog 7 #[.agg g.cs.toArray,.agg (shAm.cs x).toArray,.agg (shAm.cs y).toArray] w fun e w'=>e=.returned (.bool true)∧Below w.heap.size w w':=by
 obtain ⟨H,L,PL,X,hg⟩:=hg;exact q072 w g H L PL X hg x.ch x.at_ x.lev y.ch y.at_ y.lev hL.1 hL.2
end Go.Proofs.YtbfikenbgfnfiaaGreatDoor

namespace Go.Proofs.YtbfikenbgfnfiaaGreatDoor.universeRisesP
set_option maxHeartbeats 32000000
set_option maxRecDepth 100000
open _root_.Go.Proofs.Tryz
open Go.ChangeShapes Go.ChangeMaps Go.WideShapes Go.ChangeAt Go.RowKit
theorem lifted (os:Os) (started:os.Started) (H:Type) (enc:TypeId × Value→H) :
  ReturnsInHanded {} Tryz.checked os 7 .any (fun w args=>(Rows.universeRisesSpec.pre enc Tryz.prog Tryz.f7 [] false w args∧laidMetH Tryz.prog Rows.universeRisesRow.laid w)∧sizedMet enc Tryz.prog Tryz.f7 (OpenSpec.ofChange Rows.universeRisesSpec) false w args)
   (Rows.universeRisesSpec.post enc Tryz.prog Tryz.f7 false true false false):=by
 refine returnsInHanded_of_change_and (C:=Tryz.checked) (X:=fun w _=>laidMetH Tryz.prog Rows.universeRisesRow.laid w) (fun _ _ _ hh h=>h.of_heap hh) own_ started (by kernel_rfl) Tryz.func7
  (ChangeSpec.witness_at (enc:=enc) (C:=Tryz.checked) (os:=os) (X:=fun w _=>laidMetH Tryz.prog Rows.universeRisesRow.laid w) false (qcj os) #[.agg #[.slice none 0 0,.slice none 0 0,.slice none 0 0],.agg #[.int .i64 0,.int .i64 0,.string ⟨#[]⟩],.agg #[.int .i64 0,.int .i64 0,.string ⟨#[]⟩]] 8 rfl (by kernel_rfl) (by kernel_rfl) (by kernel_rfl) (by kernel_rfl) (by kernel_rfl) (qck os _)) ?_
 intro W base args ds gs before hval0 hW _ hWt hL _;have hval:∀ (j:Nat) t v,Tryz.f7.params[j]? = some t→args[j]? = some v→Value.okWide Tryz.prog W .any base t v:=hval0;have hW':=hW;obtain ⟨p,q,hA0,hV,rfl,hfz,hnd⟩:=hW;have hA:DataW.TrodAll enc Tryz.prog W 0 (fun _=>true) true Tryz.f7.params.toList args.toList ds p:=hA0
 rw [Tryz.params7] at hA hval hWt;obtain ⟨v0,vs0,d0,ds0,p0,q0,hargs,rfl,rfl,h0,r0⟩:=trodAll_cons hA;obtain ⟨v1,vs1,d1,ds1,p1,q1,rfl,rfl,rfl,h1,r1⟩:=trodAll_cons r0;obtain ⟨v2,vs2,d2,ds2,p2,q2,rfl,rfl,rfl,h2,r2⟩:=trodAll_cons r1;obtain ⟨rfl,rfl,rfl⟩:=trodAll_nil r2;obtain rfl:args=#[v0,v1,v2]:=by cases args;simp_all
 obtain ⟨rfl,rfl⟩:=trodVars_none hV;have lt0:∀ x ∈ p0,x.block<W.heap.size:=by obtain ⟨m,hm⟩:=h0;exact DataW.trod_lt m _ _ _ hm
 obtain ⟨cs0,fuel0,y0,rfl,hf0⟩:=q0a Tryz.underlying26 (hval 0 26 v0 rfl rfl) h0;obtain ⟨g0,rfl,hg0⟩:=qmc hf0;have lt1:∀ x ∈ p1,x.block<W.heap.size:=by obtain ⟨m,hm⟩:=h1;exact DataW.trod_lt m _ _ _ hm
 obtain ⟨cs1,fuel1,y1,rfl,hf1⟩:=q0a Tryz.underlying46 (hval 1 46 v1 rfl rfl) h1;obtain ⟨g1,rfl,hg1⟩:=q0i hf1;have lt2:∀ x ∈ p2,x.block<W.heap.size:=by obtain ⟨m,hm⟩:=h2;exact DataW.trod_lt m _ _ _ hm
 obtain ⟨cs2,fuel2,y2,rfl,hf2⟩:=q0a Tryz.underlying46 (hval 2 46 v2 rfl rfl) h2;obtain ⟨g2,rfl,hg2⟩:=q0i hf2;clear hA0 hval0 hWt;simp only [List.append_nil] at hW';refine (q06y W g0 hg0 g1 hg1 g2 hg2 (qcl hL)).mono fun e W' ⟨he,bel⟩=>?_
 subst he;exact ⟨_,rfl,_,_,_,[],_,[],hW',trodAll_mk1 (shut_bool Tryz.underlying4 _),(trodAll_cons_mk (Below.trod qci (by kernel_rfl) (of_decide_eq_true (by kernel_rfl)) h0 bel lt0) (trodAll_cons_mk (Below.trod qci (by kernel_rfl) (of_decide_eq_true (by kernel_rfl)) h1 bel lt1) (trodAll_cons_mk (Below.trod qci (by kernel_rfl) (of_decide_eq_true (by kernel_rfl)) h2 bel lt2) trodAll_mk0))),rfl,bel.frame _,fun h=>by cases h⟩
theorem over:Rows.universeRisesRow.holds Tryz.pinned (OpenSpec.ofChange Rows.universeRisesSpec) :=
 OpenClaim.holds_of_wide 7 Tryz.f7 rfl rfl rfl rfl rfl rfl rfl ⟨rfl,rfl,rfl,rfl,rfl⟩ rfl rfl rfl rfl rfl (by kernel_rfl) Tryz.func7 q06x
  (of_decide_eq_true (by kernel_rfl)) (by unfold Func.isWrapper;rw [if_neg (of_decide_eq_false (by kernel_rfl))];exact ⟨rfl,rfl⟩)
  (fun os started H enc _=>lifted os started H enc)
theorem qew:∀ t ∈ Tryz.f7.params.toList,Tryz.prog.wantsStandIn t=false:=by
 rw [Tryz.params7];intro t ht;simp only [List.mem_cons,List.not_mem_nil,or_false] at ht
 rcases ht with rfl | rfl | rfl <;> kernel_rfl
theorem limb1:OpenClaim.wfByText (OpenSpec.ofChange Rows.universeRisesSpec) Rows.universeRisesRow=true:=by kernel_rfl
theorem limb2 : Tryz.pinned.checked.prog.mainIs = some ((true, "3c05e574faa5d82a202099566cff212858ae0478407842340229b14b3e1e5c6e").1, (true, "3c05e574faa5d82a202099566cff212858ae0478407842340229b14b3e1e5c6e").2.toList) := by kernel_rfl
theorem limb3:true=Tryz.pinned.checked.prog.looks []:=by kernel_rfl
theorem limb4:false=Rows.universeRisesRow.goesBy Tryz.pinned.checked.prog:=by kernel_rfl
theorem limb5 : Tryz.prog.funcNamed "luminaire/luminairelaw13.UniverseRises" = some 7 := by kernel_rfl
theorem proved:Rows.UniverseRisesCardSaid :=
 Claim7.holds_tied_plain_at .later [] [.data, .data, .data, .data, .sentinel, .sentinel, .pinned] true (true, "3c05e574faa5d82a202099566cff212858ae0478407842340229b14b3e1e5c6e") true
  over (fun _ h=>by cases h) limb1 (fun _ h=>by cases h) universeRises_row_tie rfl ⟨rfl,rfl⟩ limb2 rfl
  (fun f fn hf hfn=>by
   obtain rfl:f=7:=Option.some.inj (limb5.symm.trans hf) |>.symm
   obtain rfl:fn=Tryz.f7:=(Option.some.inj (Tryz.func7.symm.trans hfn)).symm;exact ⟨limb3,fun j t ht=>qew t (Array.mem_toList_iff.2 (Array.mem_of_getElem? ht))⟩)
  limb4
#print axioms proved
end Go.Proofs.YtbfikenbgfnfiaaGreatDoor.universeRisesP
