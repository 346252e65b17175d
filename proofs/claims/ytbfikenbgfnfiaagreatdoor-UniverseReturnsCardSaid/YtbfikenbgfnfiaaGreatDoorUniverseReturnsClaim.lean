/- UniverseReturns: for every input the law returns true, and its arguments read behind the call as they read before. The package variables that the row lists hold what the program's text lays. -/
import Derived.Test.YtbfikenbgfnfiaaGreatDoorMUniI
import Derived.Test.YtbfikenbgfnfiaaGreatDoorMUniF
import Derived.Test.YtbfikenbgfnfiaaGreatDoorMUniE
import Derived.Test.YtbfikenbgfnfiaaGreatDoorMUniD
import Derived.Test.YtbfikenbgfnfiaaGreatDoorMUniG
import Derived.Test.YtbfikenbgfnfiaaGreatDoorMLaw
import Derived.Test.YtbfikenbgfnfiaaGreatDoorHUniverseReturns
import Derived.Test.YtbfikenbgfnfiaaGreatDoorCards
import Derived.Test.YtbfikenbgfnfiaaGreatDoorTie
import Derived.SevenTiedAt
import Derived.SizedLaws
import Derived.Test.YtbfikenbgfnfiaaGreatDoorMUp
namespace Go.Proofs.YtbfikenbgfnfiaaGreatDoor
set_option maxHeartbeats 32000000
open _root_.Go.Proofs.Tryz
open Go.RowKit
theorem q00r {L:List (List PT)} {PL:List (PC × List Fea)} {X:List Fx} {l:List Am} (hu:uniE L PL X=0) (hg:givE l=0):frE L PL X l=0∧frV L PL X l=frmG (usedU X) (pageV L l PL X) 8∧RgL (frV L PL X l)∧(frV L PL X l).length≤8:=by
 have hE:frE L PL X l=0:=by unfold frE;rw [if_neg (fun h=>h hu),hg]
 have hV:frV L PL X l=frmG (usedU X) (pageV L l PL X) 8:=by unfold frV;rw [if_neg (fun h=>h hE)]
 refine ⟨hE,hV,?_,?_⟩
 ·rw [hV];exact (q9l _ _ (fun u=>qg7 L l PL u X) 8 (Nat.le_refl _)).1
 ·rw [hV];exact q9k _ _ 8
theorem q00s {L:List (List PT)} {PL:List (PC × List Fea)} {X:List Fx} {l m:List Am} (hu:uniE L PL X=0) (hl:givE l=0) (hm:givE m=0) :
  chgE (frV L PL X l) (frV L PL X m)=0∧appE (frV L PL X l) (chgV (frV L PL X l) (frV L PL X m))=0∧appV (frV L PL X l) (chgV (frV L PL X l) (frV L PL X m))=frV L PL X m∧chgE (frV L PL X m) (frV L PL X m)=0∧chgV (frV L PL X m) (frV L PL X m)=[]∧(chgV (frV L PL X l) (frV L PL X m)).length≤4096∧decide ((chgV (frV L PL X l) (frV L PL X m)).length=0)=decide (frV L PL X l=frV L PL X m):=by
 obtain ⟨-,v1,r1,k1⟩:=q00r hu hl;obtain ⟨-,v2,r2,k2⟩:=q00r hu hm;have hq:eqU (frV L PL X l) (frV L PL X m)=true:=by
  rw [v1,v2];exact q6v (q9n _ _ _ 8)
 have hq2:eqU (frV L PL X m) (frV L PL X m)=true:=q6v rfl;generalize frV L PL X l=a at *;generalize frV L PL X m=b at *;have e1:chgE a b=0:=by unfold chgE;rw [if_neg (fun h=>h (qmd r1 k1)),if_neg (fun h=>h (qmd r2 k2)),hq,if_neg (by decide)]
 have e2:chgE b b=0:=by unfold chgE;rw [if_neg (fun h=>h (qmd r2 k2)),if_neg (fun h=>h (qmd r2 k2)),hq2,if_neg (by decide)]
 have f1:chgV a b=difA a b a.length:=by unfold chgV;rw [if_neg (fun h=>h e1)]
 have f2:chgV b b=[]:=by unfold chgV;rw [if_neg (fun h=>h e2)];exact q5a b _
 have a1:appE a (difA a b a.length)=0:=q0w r1 k1 b;refine ⟨e1,by rw [f1];exact a1,?_,e2,f2,?_,?_⟩
 ·rw [f1]
  unfold appV;rw [if_neg (fun h=>h a1)]
  exact q0s r1 r2 hq
 ·rw [f1]
  have:=q59 a b a.length
  omega
 ·rw [f1,decide_eq_decide,List.length_eq_zero_iff]
  exact q5e r1 r2 hq
set_option maxRecDepth 100000 in
theorem q00w (w:World) (g:RG) (H:List Hd) (L:List (List PT)) (PL:List (PC × List Fea)) (X:List Fx) (hg:g.Is w H L PL X) (A:Option Addr) (n c:Nat) (l:List Am) (hl:shAm.In w A n l) (hn:n≤9223372036854775806) (A':Option Addr) (n' c':Nat) (m:List Am) (hm:shAm.In w A' n' m) (hn':n'≤9223372036854775806) (ht:Tab w) (hr:Rng w) :
  Calls Tryz.prog 5 #[.agg g.cs.toArray,.slice A n c,.slice A' n' c'] w fun e w'=>e=.returned (.bool true)∧Below w.heap.size w w':=by
 obtain ⟨A0,n0,d0,A1,n1,d1,A2,n2,d2⟩:=g;obtain ⟨rfl,_⟩:=id hl;obtain ⟨rfl,_⟩:=id hm;show Calls Tryz.prog 5 #[.agg #[.slice A0 n0 d0,.slice A1 n1 d1,.slice A2 n2 d2],.slice A l.length c,.slice A' m.length c'] w fun e w'=>e=.returned (.bool true)∧Below w.heap.size w w'
 have hn1l:n1=PL.length:=by have:=hg.2.1.1.1.1;simpa using this
 obtain rfl:n2=X.length:=hg.2.2.1.1;have HRt1:=Lib.hid (fun w h1 h2=>qch A0 n0 d0 A1 n1 d1 A2 X.length d2 H L PL X A l.length c l w h1 h2 hn)
 have HRt2:=Lib.hid (fun w h1 h2=>qch A0 n0 d0 A1 n1 d1 A2 X.length d2 H L PL X A' m.length c' m w h1 h2 hn')
 have HAw:=Lib.hid (fun w ht hr=>qtq w ht hr)
 have HG:=Lib.hid hg;have HL:=Lib.hid hl;have HM:=Lib.hid hm;have HT:=Lib.hid ht;have HRg:=Lib.hid hr;have HN1:=Lib.hid hn1l;have HUf:=Lib.hid (fun (B:Option Addr) (k d:Nat) (q:List Am) (hf:fewRg L PL X.length=true) (w:World) (h:RG.Is w ⟨A0,n0,d0,A1,n1,d1,A2,X.length,d2⟩ H L PL X) (h4:shAm.In w B k q) (hk:k≤9223372036854775806) (hs:∀ a ∈ q,a.lev.size≤120) ht hr=>qtn A0 n0 d0 H L A1 n1 d1 PL A2 X.length d2 X B k d q w h.1.1 h.1.2.1 h.1.2.2 (h.2.1.1.few hf) (by have h9:=(q7x hf).1;have h8:=HN1.out;omega) h.2.2.1 h.2.2.2.1.1 h.2.2.2.1.2 h.2.2.2.2 h4 hk hs ht hr)
 have HN:=Lib.hid (And.intro hn hn');clear hg hl hm hn hn' ht hr hn1l;obtain ⟨W,hW⟩:∃ W,W=(w.alloc (.cells #[.slice A0 n0 d0,.slice A1 n1 d1,.slice A2 X.length d2] 26)):=⟨_,rfl⟩;obtain ⟨hB0,hK0⟩:=box1 #[.slice A0 n0 d0,.slice A1 n1 d1,.slice A2 X.length d2] 26 w W hW;have hK:∀ w',Below W.heap.size W w'→w'.cell? ⟨w.heap.size,0,none⟩=some (.slice A0 n0 d0)∧w'.cell? ⟨w.heap.size,1,none⟩=some (.slice A1 n1 d1)∧w'.cell? ⟨w.heap.size,2,none⟩=some (.slice A2 X.length d2):=fun w' h=>⟨(hK0 w' h) 0 _ rfl,(hK0 w' h) 1 _ rfl,(hK0 w' h) 2 _ rfl⟩
 have HK:=Lib.hid hK;have HW:=Lib.hid hW;have HB0:=Lib.hid hB0;have hB:=Below.refl W.heap.size W;obtain ⟨c0,c1,c2⟩:=hK W hB;clear hW hB0 hK hK0;replace HG:=Lib.hid (HG.out.below HB0.out);replace HL:=Lib.hid (HL.out.below HB0.out);replace HM:=Lib.hid (HM.out.below HB0.out);replace HT:=Lib.hid (HT.out.below HB0.out);replace HRg:=Lib.hid (HRg.out.below HB0.out);have HFin:=Lib.hid (fun (w':World) (h:Below W.heap.size W w')=>HB0.out.trans (h.mono HB0.out.size))
 cases hr1:rgtB L PL X l with
 | false =>
  rw [hr1] at HRt1;clear hr1
  go_enter Tryz.func5,Tryz.ntmps5
  go_wp2_with fail;rw [← HW.out];refine uq_ (HRt1.out _ (HG.out.below hB) (HL.out.below hB)) hB ?_;clear hB;intro wk hB;obtain ⟨c0,c1,c2⟩:=HK.out _ hB;go_wp2_with fail;refine uq_ (HAw.out _ (HT.out.below hB) (HRg.out.below hB)) hB ?_;clear hB;intro wk hB;go_wp2_with fail;go_ret;exact ⟨rfl,HB0.out.trans (hB.mono HB0.out.size)⟩
 | true =>
  rw [hr1] at HRt1
  cases hr2:rgtB L PL X m with
  | false =>
   rw [hr2] at HRt2;clear hr1 hr2
   go_enter Tryz.func5,Tryz.ntmps5
   go_wp2_with fail;rw [← HW.out];refine uq_ (HRt1.out _ (HG.out.below hB) (HL.out.below hB)) hB ?_;clear hB;intro wk hB;obtain ⟨c0,c1,c2⟩:=HK.out _ hB;go_wp2_with fail;refine uq_ (HRt2.out _ (HG.out.below hB) (HM.out.below hB)) hB ?_;clear hB;intro wk hB;obtain ⟨c0,c1,c2⟩:=HK.out _ hB;go_wp2_with fail;refine uq_ (HAw.out _ (HT.out.below hB) (HRg.out.below hB)) hB ?_;clear hB;intro wk hB;go_wp2_with fail;go_ret;exact ⟨rfl,HB0.out.trans (hB.mono HB0.out.size)⟩
  | true =>
   rw [hr2] at HRt2;obtain ⟨q1,q2,q3,q4⟩:=rgt_of hr1;obtain ⟨-,s2,-,s4⟩:=rgt_of hr2;obtain ⟨fe1,-,fr1,fl1⟩:=q00r q3 q4 (l:=l);obtain ⟨fe2,-,fr2,fl2⟩:=q00r q3 s4 (l:=m);obtain ⟨t1,t2,t3,t4,t5,t6,t7⟩:=q00s q3 q4 s4;have HF1:=Lib.hid (fun w h h4 ht hr=>HUf.out A l.length c l q1 w h h4 HN.out.1 (fun a h=>Nat.le_trans ((q7o q2).2 a h) (by decide)) ht hr)
   have HF2:=Lib.hid (fun w h h4 ht hr=>HUf.out A' m.length c' m q1 w h h4 HN.out.2 (fun a h=>Nat.le_trans ((q7o s2).2 a h) (by decide)) ht hr)
   rw [fe1] at HF1;rw [fe2] at HF2;generalize frV L PL X l=a at *;generalize frV L PL X m=b at *;generalize hC:chgV a b=C at *;have hsa:∀ x ∈ a,x.sl.size≤9223372036854775807:=fun x hx=>by have:=(fr1.2 x hx).2.2;omega
   have hsb:∀ x ∈ b,x.sl.size≤9223372036854775807:=fun x hx=>by have:=(fr2.2 x hx).2.2;omega
   have HC1:=Lib.hid (fun B1 e1 B2 e2 w h1 h2=>qtl B1 a.length e1 B2 b.length e2 a b w h1 h2 (by omega) (by omega) hsa hsb)
   have HC2:=Lib.hid (fun B2 e2 w h1 h2=>qtl B2 b.length e2 B2 b.length e2 b b w h1 h2 (by omega) (by omega) hsb hsb)
   have HAp:=Lib.hid (fun B1 e1 B2 e2 w h1 h2=>qtk B1 a.length e1 B2 C.length e2 a C w h1 h2 (by omega) (by omega) hsa)
   rw [t1,hC] at HC1;rw [t4,t5] at HC2;rw [t2,t3] at HAp;have HS1:=Lib.hid (fun B1 e1 B2 e2 w h1 h2=>qto B1 B2 b.length b.length e1 e2 b b w h1 h2 (by omega) (by omega))
   rw [decide_eq_true (rfl:b=b)] at HS1;have HS2:=Lib.hid (fun B1 e1 B2 e2 w h1 h2=>qto B1 B2 a.length b.length e1 e2 a b w h1 h2 (by omega) (by omega))
   have hq:((C.length:Int) == 0)=decide (a=b):=by rw [← t7,Bool.eq_iff_iff];simp
   generalize decide (a=b)=qq at *;clear hr1 hr2 q1 q2 q3 q4 s2 s4 fe1 fe2 fr1 fr2 t1 t2 t3 t4 t5 t7 hsa hsb hC HUf
   go_enter Tryz.func5,Tryz.ntmps5
   go_wp2_with fail;rw [← HW.out];refine uq_ (HRt1.out _ (HG.out.below hB) (HL.out.below hB)) hB ?_;clear hB;intro wk hB;obtain ⟨c0,c1,c2⟩:=HK.out _ hB;go_wp2_with fail;refine uq_ (HRt2.out _ (HG.out.below hB) (HM.out.below hB)) hB ?_;clear hB;intro wk hB;obtain ⟨c0,c1,c2⟩:=HK.out _ hB;go_wp2_with fail;refine (HF1.out _ (HG.out.below hB) (HL.out.below hB) (HT.out.below hB) (HRg.out.below hB)).mono ?_;rintro e w5 ⟨r,rfl,B1,e1,rfl,ho,hb⟩;have HI1:=Lib.hid (Sh.In.of_own ho rfl);replace hB:=hB.trans (hb.mono hB.size);clear ho hb;obtain ⟨c0,c1,c2⟩:=HK.out _ hB;go_wp2_with fail;refine (HF2.out _ (HG.out.below hB) (HM.out.below hB) (HT.out.below hB) (HRg.out.below hB)).mono ?_;rintro e w6 ⟨r,rfl,B2,e2,rfl,ho,hb⟩;have HI2:=Lib.hid (HI1.out.below hb);have HJ2:=Lib.hid (Sh.In.of_own ho rfl);replace hB:=hB.trans (hb.mono hB.size);clear ho hb;go_wp2_with fail;refine (HC1.out _ _ _ _ _ HI2.out HJ2.out).mono ?_;rintro e w7 ⟨r,rfl,B3,e3,rfl,ho,hb⟩;have HI3:=Lib.hid (HI2.out.below hb);have HJ3:=Lib.hid (HJ2.out.below hb);have HK3:=Lib.hid (Sh.In.of_own ho rfl);replace hB:=hB.trans (hb.mono hB.size);clear ho hb;go_wp2_with fail;refine (HAp.out _ _ _ _ _ HI3.out HK3.out).mono ?_;rintro e w8 ⟨r,rfl,B4,e4,rfl,ho,hb⟩;have HI4:=Lib.hid (HI3.out.below hb);have HJ4:=Lib.hid (HJ3.out.below hb);have HM4:=Lib.hid (Sh.In.of_own ho rfl);replace hB:=hB.trans (hb.mono hB.size);clear ho hb;go_wp2_with fail;refine (HC2.out _ _ _ HJ4.out HJ4.out).mono ?_;rintro e w9 ⟨r,rfl,B5,e5,rfl,ho,hb⟩;have HI5:=Lib.hid (HI4.out.below hb);have HJ5:=Lib.hid (HJ4.out.below hb);have HM5:=Lib.hid (HM4.out.below hb);replace hB:=hB.trans (hb.mono hB.size);clear ho hb;go_wp2_with fail;refine (HS1.out _ _ _ _ _ HM5.out HJ5.out).mono ?_;rintro e w10 ⟨rfl,hb⟩;have HI6:=Lib.hid (HI5.out.below hb);have HJ6:=Lib.hid (HJ5.out.below hb);replace hB:=hB.trans (hb.mono hB.size);clear hb;go_wp2_with fail;refine uq_ (HS2.out _ _ _ _ _ HI6.out HJ6.out) hB ?_;clear hB;intro w11 hB;go_wp2_with fail;refine uq_ (HAw.out _ (HT.out.below hB) (HRg.out.below hB)) hB ?_;clear hB;intro w12 hB;go_wp2_with fail;go_ret;exact ⟨by first | rfl | exact ret_b (by simp [hq]),HFin.out _ hB⟩
theorem q00v (w:World) (g:RG) (hg:g.good w) (A:Option Addr) (n c:Nat) (l:List Am) (hl:shAm.In w A n l) (_:∀ g ∈ l,g.good) (_:n≤maxLen) (hby:n*32≤reachBytes) (A':Option Addr) (n' c':Nat) (m:List Am) (hm:shAm.In w A' n' m) (_:∀ g ∈ m,g.good) (_:n'≤maxLen) (hby':n' * 32≤reachBytes) (hL:Laid w) :
  Calls Tryz.prog 5 #[.agg g.cs.toArray,.slice A n c,.slice A' n' c'] w fun e w'=>e=.returned (.bool true)∧Below w.heap.size w w':=by
 obtain ⟨H,L,PL,X,hg⟩:=hg;exact q00w w g H L PL X hg A n c l hl (by unfold reachBytes at hby;omega) A' n' c' m hm (by unfold reachBytes at hby';omega) hL.1 hL.2
end Go.Proofs.YtbfikenbgfnfiaaGreatDoor

namespace Go.Proofs.YtbfikenbgfnfiaaGreatDoor.universeReturnsP
set_option maxHeartbeats 32000000
open _root_.Go.Proofs.Tryz
open Go.ChangeShapes Go.ChangeMaps Go.WideShapes Go.ChangeAt Go.RowKit
set_option maxRecDepth 100000 in
theorem lifted (os:Os) (started:os.Started) (H:Type) (enc:TypeId × Value→H) :
  ReturnsInHanded {} Tryz.checked os 5 .any (fun w args=>(Rows.universeReturnsSpec.pre enc Tryz.prog Tryz.f5 [] false w args∧laidMetH Tryz.prog Rows.universeReturnsRow.laid w)∧sizedMet enc Tryz.prog Tryz.f5 (OpenSpec.ofChange Rows.universeReturnsSpec) false w args)
   (Rows.universeReturnsSpec.post enc Tryz.prog Tryz.f5 false true false false):=by
 refine returnsInHanded_of_change_and (C:=Tryz.checked) (X:=fun w _=>laidMetH Tryz.prog Rows.universeReturnsRow.laid w) (fun _ _ _ hh h=>h.of_heap hh) own_ started (by kernel_rfl) Tryz.func5
  (ChangeSpec.witness_at (enc:=enc) (C:=Tryz.checked) (os:=os) (X:=fun w _=>laidMetH Tryz.prog Rows.universeReturnsRow.laid w) false (qcj os) #[.agg #[.slice none 0 0,.slice none 0 0,.slice none 0 0],.slice none 0 0,.slice none 0 0] 8 rfl (by kernel_rfl) (by kernel_rfl) (by kernel_rfl) (by kernel_rfl) (by kernel_rfl) (qck os _)) ?_
 intro W base args ds gs before hval0 hW _ hWt hL _;have hval:∀ (j:Nat) t v,Tryz.f5.params[j]? = some t→args[j]? = some v→Value.okWide Tryz.prog W .any base t v:=hval0;have hW':=hW;obtain ⟨p,q,hA0,hV,rfl,hfz,hnd⟩:=hW;have hA:DataW.TrodAll enc Tryz.prog W 0 (fun _=>true) true Tryz.f5.params.toList args.toList ds p:=hA0
 rw [Tryz.params5] at hA hval hWt;obtain ⟨v0,vs0,d0,ds0,p0,q0,hargs,rfl,rfl,h0,r0⟩:=trodAll_cons hA;obtain ⟨v1,vs1,d1,ds1,p1,q1,rfl,rfl,rfl,h1,r1⟩:=trodAll_cons r0;obtain ⟨v2,vs2,d2,ds2,p2,q2,rfl,rfl,rfl,h2,r2⟩:=trodAll_cons r1;obtain ⟨rfl,rfl,rfl⟩:=trodAll_nil r2;obtain rfl:args=#[v0,v1,v2]:=by cases args;simp_all
 obtain ⟨rfl,rfl⟩:=trodVars_none hV;have lt0:∀ x ∈ p0,x.block<W.heap.size:=by obtain ⟨m,hm⟩:=h0;exact DataW.trod_lt m _ _ _ hm
 obtain ⟨cs0,fuel0,y0,rfl,hf0⟩:=q0a Tryz.underlying26 (hval 0 26 v0 rfl rfl) h0;obtain ⟨g0,rfl,hg0⟩:=qmc hf0;have lt1:∀ x ∈ p1,x.block<W.heap.size:=by obtain ⟨m,hm⟩:=h1;exact DataW.trod_lt m _ _ _ hm
 obtain ⟨A1,n1,c1,rfl⟩:=okWide_slice Tryz.underlying27 (hval 1 27 v1 rfl rfl);have k1:=h1;obtain ⟨fuel1,hf1⟩:=k1;obtain ⟨l1,hl1,hg1,hn1,hx1⟩:=qfc shAm Tryz.underlying27 (by kernel_rfl:Tryz.prog.cellsOf 46=shAm.z) (by decide) ⟨0,0,⟨#[]⟩⟩ _ (fun _ _ _ h=>q0i h) hf1
 have hby1:n1*32≤reachBytes:=by
  rcases hx1 with h | ⟨el,sp,e1,e2⟩
  ·rw [h];decide
  ·have hs:(el.length+sp.length)*Tryz.prog.bytesOf 46≤reachBytes:=sized_slice hWt (j:=1) (t:=27) (e:=46) (elems:=el) (spare:=sp) rfl (congrArg some e1) Tryz.underlying27
   rw [show Tryz.prog.bytesOf 46=32 by kernel_rfl] at hs
   rw [e2];exact Nat.le_trans (Nat.mul_le_mul_right _ (Nat.le_add_right _ _)) hs
 have lt2:∀ x ∈ p2,x.block<W.heap.size:=by obtain ⟨m,hm⟩:=h2;exact DataW.trod_lt m _ _ _ hm
 obtain ⟨A2,n2,c2,rfl⟩:=okWide_slice Tryz.underlying27 (hval 2 27 v2 rfl rfl);have k2:=h2;obtain ⟨fuel2,hf2⟩:=k2;obtain ⟨l2,hl2,hg2,hn2,hx2⟩:=qfc shAm Tryz.underlying27 (by kernel_rfl:Tryz.prog.cellsOf 46=shAm.z) (by decide) ⟨0,0,⟨#[]⟩⟩ _ (fun _ _ _ h=>q0i h) hf2
 have hby2:n2*32≤reachBytes:=by
  rcases hx2 with h | ⟨el,sp,e1,e2⟩
  ·rw [h];decide
  ·have hs:(el.length+sp.length)*Tryz.prog.bytesOf 46≤reachBytes:=sized_slice hWt (j:=2) (t:=27) (e:=46) (elems:=el) (spare:=sp) rfl (congrArg some e1) Tryz.underlying27
   rw [show Tryz.prog.bytesOf 46=32 by kernel_rfl] at hs
   rw [e2];exact Nat.le_trans (Nat.mul_le_mul_right _ (Nat.le_add_right _ _)) hs
 clear hA0 hval0 hWt;simp only [List.append_nil] at hW';refine (q00v W g0 hg0 A1 n1 c1 l1 hl1 hg1 hn1 hby1 A2 n2 c2 l2 hl2 hg2 hn2 hby2 (qcl hL)).mono fun e W' ⟨he,bel⟩=>?_
 subst he;exact ⟨_,rfl,_,_,_,[],_,[],hW',trodAll_mk1 (shut_bool Tryz.underlying4 _),(trodAll_cons_mk (Below.trod qci (by kernel_rfl) (of_decide_eq_true (by kernel_rfl)) h0 bel lt0) (trodAll_cons_mk (Below.trod qci (by kernel_rfl) (of_decide_eq_true (by kernel_rfl)) h1 bel lt1) (trodAll_cons_mk (Below.trod qci (by kernel_rfl) (of_decide_eq_true (by kernel_rfl)) h2 bel lt2) trodAll_mk0))),rfl,bel.frame _,fun h=>by cases h⟩
theorem over:Rows.universeReturnsRow.holds Tryz.pinned (OpenSpec.ofChange Rows.universeReturnsSpec) :=
 OpenClaim.holds_of_wide 5 Tryz.f5 rfl rfl rfl rfl rfl rfl rfl ⟨rfl,rfl,rfl,rfl,rfl⟩ rfl rfl rfl rfl rfl (by kernel_rfl) Tryz.func5 qxy
  (of_decide_eq_true (by kernel_rfl)) (by unfold Func.isWrapper;rw [if_neg (of_decide_eq_false (by kernel_rfl))];exact ⟨rfl,rfl⟩)
  (fun os started H enc _=>lifted os started H enc)
theorem qew:∀ t ∈ Tryz.f5.params.toList,Tryz.prog.wantsStandIn t=false:=by
 rw [Tryz.params5];intro t ht;simp only [List.mem_cons,List.not_mem_nil,or_false] at ht
 rcases ht with rfl | rfl | rfl <;> kernel_rfl
theorem limb1:OpenClaim.wfByText (OpenSpec.ofChange Rows.universeReturnsSpec) Rows.universeReturnsRow=true:=by kernel_rfl
theorem limb2 : Tryz.pinned.checked.prog.mainIs = some ((true, "3c05e574faa5d82a202099566cff212858ae0478407842340229b14b3e1e5c6e").1, (true, "3c05e574faa5d82a202099566cff212858ae0478407842340229b14b3e1e5c6e").2.toList) := by kernel_rfl
theorem limb3:true=Tryz.pinned.checked.prog.looks []:=by kernel_rfl
theorem limb4:false=Rows.universeReturnsRow.goesBy Tryz.pinned.checked.prog:=by kernel_rfl
theorem limb5 : Tryz.prog.funcNamed "luminaire/luminairelaw13.UniverseReturns" = some 5 := by kernel_rfl
theorem proved:Rows.UniverseReturnsCardSaid :=
 Claim7.holds_tied_plain_at .later [] [.data, .data, .data, .data, .sentinel, .sentinel, .pinned] true (true, "3c05e574faa5d82a202099566cff212858ae0478407842340229b14b3e1e5c6e") true
  over (fun _ h=>by cases h) limb1 (fun _ h=>by cases h) universeReturns_row_tie rfl ⟨rfl,rfl⟩ limb2 rfl
  (fun f fn hf hfn=>by
   obtain rfl:f=5:=Option.some.inj (limb5.symm.trans hf) |>.symm
   obtain rfl:fn=Tryz.f5:=(Option.some.inj (Tryz.func5.symm.trans hfn)).symm;exact ⟨limb3,fun j t ht=>qew t (Array.mem_toList_iff.2 (Array.mem_of_getElem? ht))⟩)
  limb4
#print axioms proved
end Go.Proofs.YtbfikenbgfnfiaaGreatDoor.universeReturnsP
