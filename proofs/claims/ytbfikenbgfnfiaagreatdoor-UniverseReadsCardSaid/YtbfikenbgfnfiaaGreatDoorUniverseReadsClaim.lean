/- UniverseReads: for every input the law returns true, and its arguments read behind the call as they read before. The package variables that the row lists hold what the program's text lays. -/
import Derived.Test.YtbfikenbgfnfiaaGreatDoorKUniI
import Derived.Test.YtbfikenbgfnfiaaGreatDoorSUniR
import Derived.Test.YtbfikenbgfnfiaaGreatDoorSUniP
import Derived.Test.YtbfikenbgfnfiaaGreatDoorKUniG
import Derived.Test.YtbfikenbgfnfiaaGreatDoorKLaw
import Derived.Test.YtbfikenbgfnfiaaGreatDoorHUniverseReads
import Derived.Test.YtbfikenbgfnfiaaGreatDoorCards
import Derived.Test.YtbfikenbgfnfiaaGreatDoorTie
import Derived.SevenTiedAt
import Derived.SizedLaws
import Derived.Test.YtbfikenbgfnfiaaGreatDoorKUp
namespace Go.Proofs.YtbfikenbgfnfiaaGreatDoor
set_option maxHeartbeats 32000000
set_option maxRecDepth 100000
open _root_.Go.Proofs.Tryz
open Go.RowKit
theorem few40 {L:List (List PT)} {PL:List (PC × List Fea)} {n:Nat} (h:fewRg L PL n=true) (pr:ByteArray):(featV PL pr).length≤40:=by
 unfold featV
 cases hq:PL.find? (fun x=>decide (x.1.s=pr)) with
 | none=>exact Nat.zero_le _
 | some y =>
  have:=(q7x h).2.2.2 y (List.mem_of_find?_eq_some hq)
  unfold fewP at this;rw [Bool.and_eq_true,Bool.and_eq_true] at this;exact of_decide_eq_true this.1.1
theorem q07z {L:List (List PT)} {PL:List (PC × List Fea)} {X:List Fx} {l:List Fm} (h:∀ x ∈ X,(featV PL x.pr).length≤40):(outV L PL X l).length≤40*X.length:=by
 unfold outV
 by_cases he:outE L PL X l=0
 ·rw [if_pos he]
  have h1:=q08a (offX l PL X) [];have h2:=q07u (l:=l) h;rw [List.length_nil] at h1;omega
 ·rw [if_neg he];exact Nat.zero_le _
theorem q09r (w:World) (g:RG) (H:List Hd) (L:List (List PT)) (PL:List (PC × List Fea)) (X:List Fx) (hg:g.Is w H L PL X) (A:Option Addr) (n c:Nat) (l:List Fm) (hl:shFm.In w A n l) (hn:n≤9223372036854775806) (hs:∀ x ∈ l,x.sl.size≤9223372036854775807) (u a:Int) (ht:Tab w) (hr:Rng w) :
  Calls Tryz.prog 8 #[.agg g.cs.toArray,.slice A n c,.agg #[.int .i64 u,.int .i64 a]] w fun e w'=>e=.returned (.bool true)∧Below w.heap.size w w':=by
 obtain ⟨A0,n0,d0,A1,n1,d1,A2,n2,d2⟩:=g;obtain ⟨rfl,_⟩:=id hl;show Calls Tryz.prog 8 #[.agg #[.slice A0 n0 d0,.slice A1 n1 d1,.slice A2 n2 d2],.slice A l.length c,.agg #[.int .i64 u,.int .i64 a]] w fun e w'=>e=.returned (.bool true)∧Below w.heap.size w w'
 obtain ⟨⟨hl0,hm,hn0⟩,⟨hp,hpo,hnd1,hd1⟩,hx,⟨hnd2,hd2⟩,hcb⟩:=hg;dsimp only at hl0 hn0 hp hnd1 hd1 hx hnd2 hd2;obtain rfl:n2=X.length:=hx.1;have HOw:=hj_ (fun w=>qdg A0 n0 d0 A1 n1 d1 A2 X.length d2 w)
 have HAw:=hj_ (fun w ht hr=>qtq w ht hr)
 have HFr:=hj_ (fun w h1 h2=>qm7 A0 n0 d0 H L A1 n1 d1 PL A2 X.length d2 w h1 hn0 h2 (Nat.le_trans hnd1 hd1))
 have HFa:=hj_ (fun w h=>qm5 A l.length c l w h hn)
 have HUr:=hj_ (fun (hn1:n1≤9223372036854775806) (w:World) h1 h2 h3 h4=>q05x A0 n0 d0 H L A1 n1 d1 PL A2 X.length d2 X A l.length c l u a w h1 hm h2 hn1 h3 hnd2 hd2 hcb h4 hn hs)
 have HRr:=hj_ (fun (hn1:n1≤9223372036854775806) (hn2:X.length≤9223372036854775806) (w:World) h1 h2 h3 h4=>q08c A0 n0 d0 H L A1 n1 d1 PL A2 X.length d2 X A l.length c l u a w h1 hm hn0 h2 hpo hnd1 hd1 hn1 h3 hn2 hcb h4 hn hs)
 have HUo:=hj_ (fun h40 (hn1:n1≤9223372036854775806) (w:World) h1 h2 h3 h4=>q08q A0 n0 d0 H L A1 n1 d1 PL A2 X.length d2 X A l.length c l w h1 hm h2 hn1 h3 hnd2 hd2 hcb h4 hn hs h40)
 have HRo:=hj_ (fun h40 (hn1:n1≤9223372036854775806) (hn2:X.length≤9223372036854775806) (w:World) h1 h2 h3 h4=>q08b A0 n0 d0 H L A1 n1 d1 PL A2 X.length d2 X A l.length c l w h1 hm hn0 h2 hpo hnd1 hd1 hn1 h3 hn2 hcb h4 hn hs h40)
 have HSm:=hj_ (fun B B' d d' (k:List PT) w h1 h2 (hm:k.length≤9223372036854775807)=>q08h B B' k.length k.length d d' k k w h1 h2 hm hm)
 have HRL:=hj_ (And.intro hl0 (And.intro hp hx));have HL:=hj_ hl;have HT:=hj_ ht;have HRg:=hj_ hr;have HN:=hj_ hn;have hn1l:n1=PL.length:=by have:=hp.1.1;simpa using this
 have HN1:=hj_ hn1l;have HOl:=hj_ (fun h=>q07z (L:=L) (PL:=PL) (X:=X) (l:=l) h)
 generalize outV L PL X l=OV at *;generalize outE L PL X l=OE at *;generalize rawUV L PL X l u a=RV at *;generalize rawUE L PL X l u a=RE at *;clear hl hn hs ht hr hl0 hm hn0 hp hpo hnd1 hd1 hx hnd2 hd2 hcb hn1l;obtain ⟨W,hW⟩:∃ W,W=((w.alloc (.cells #[.slice A0 n0 d0,.slice A1 n1 d1,.slice A2 X.length d2] 26)).alloc (.cells #[.int .i64 u,.int .i64 a] 43)):=⟨_,rfl⟩;obtain ⟨hB0,hK0⟩:=box2 #[.slice A0 n0 d0,.slice A1 n1 d1,.slice A2 X.length d2] 26 #[.int .i64 u,.int .i64 a] 43 w W hW;have hK:∀ w',Below W.heap.size W w'→w'.cell? ⟨w.heap.size,0,none⟩=some (.slice A0 n0 d0)∧w'.cell? ⟨w.heap.size,1,none⟩=some (.slice A1 n1 d1)∧w'.cell? ⟨w.heap.size,2,none⟩=some (.slice A2 X.length d2)∧w'.cell? ⟨w.heap.size+1,0,none⟩=some (.int .i64 u)∧w'.cell? ⟨w.heap.size+1,1,none⟩=some (.int .i64 a):=fun w' h=>⟨(hK0 w' h).1 0 _ rfl,(hK0 w' h).1 1 _ rfl,(hK0 w' h).1 2 _ rfl,(hK0 w' h).2 0 _ rfl,(hK0 w' h).2 1 _ rfl⟩
 have HK:=hj_ hK;have HW:=hj_ hW;have HB0:=hj_ hB0;have hB:=Below.refl W.heap.size W;obtain ⟨c0,c1,c2,c3,c4⟩:=hK W hB;clear hW hB0 hK hK0;have HRLb:=hj_ (fun (w':World) (h:Below W.heap.size W w')=>show InN w' A0 n0 H L∧InR w' A1 n1 PL∧shX.In w' A2 X.length X from ⟨(HRL.out.1.below HB0.out).below h,(HRL.out.2.1.below HB0.out).below h,(HRL.out.2.2.below HB0.out).below h⟩)
 replace HL:=hj_ (HL.out.below HB0.out);replace HT:=hj_ (HT.out.below HB0.out);replace HRg:=hj_ (HRg.out.below HB0.out);have HFin:=hj_ (fun (w':World) (h:Below W.heap.size W w')=>ht_ HB0.out h)
 cases hfr:fewRg L PL X.length with
 | false =>
  rw [hfr] at HFr;clear hfr
  go_enter Tryz.func8,Tryz.ntmps8
  go_wp2_with fail;rw [← HW.out];refine uq_ (HOw.out _) hB ?_;clear hB;intro wk hB;obtain ⟨c0,c1,c2,c3,c4⟩:=HK.out _ hB;go_wp2_with fail;refine uq_ (HFr.out _ (HRLb.out _ hB).1 (HRLb.out _ hB).2.1) hB ?_;clear hB;intro wk hB;obtain ⟨c0,c1,c2,c3,c4⟩:=HK.out _ hB;go_wp2_with fail;refine uq_ (HAw.out _ (HT.out.below hB) (HRg.out.below hB)) hB ?_;clear hB;intro wk hB;go_wp2_with fail;go_ret;exact ⟨rfl,ht_ HB0.out hB⟩
 | true =>
  have hfw:=q7x hfr;have hn1:n1≤40:=by rw [HN1.out];exact hfw.1
  have hn2:X.length≤70:=hfw.2.1;have h40:∀ x ∈ X,(featV PL x.pr).length≤40:=fun x _=>few40 hfr x.pr
  have HRLc:=hj_ (fun (w':World) (h:Below W.heap.size W w')=>show InN w' A0 n0 H L∧InPs w' A1 n1 PL∧shX.In w' A2 X.length X from ⟨(HRLb.out _ h).1,(HRLb.out _ h).2.1.few hfr,(HRLb.out _ h).2.2⟩)
  replace HUr:=hj_ (fun w (h:InN w A0 n0 H L∧InPs w A1 n1 PL∧shX.In w A2 X.length X)=>HUr.out (by omega) w h.1 h.2.1 h.2.2)
  replace HRr:=hj_ (fun w (h:InN w A0 n0 H L∧InPs w A1 n1 PL∧shX.In w A2 X.length X)=>HRr.out (by omega) (by omega) w h.1 h.2.1 h.2.2)
  replace HUo:=hj_ (fun w (h:InN w A0 n0 H L∧InPs w A1 n1 PL∧shX.In w A2 X.length X)=>HUo.out h40 (by omega) w h.1 h.2.1 h.2.2)
  replace HRo:=hj_ (fun w (h:InN w A0 n0 H L∧InPs w A1 n1 PL∧shX.In w A2 X.length X)=>HRo.out h40 (by omega) (by omega) w h.1 h.2.1 h.2.2)
  have hol:=HOl.out h40;replace HSm:=hj_ (fun B B' d d' w h1 h2=>HSm.out B B' d d' OV w h1 h2 (by omega))
  rw [hfr] at HFr;clear hfr hfw hn1 hn2 h40 hol HOl
  cases hfa:fewFm l with
  | false =>
   rw [hfa] at HFa;clear hfa
   go_enter Tryz.func8,Tryz.ntmps8
   go_wp2_with fail;rw [← HW.out];refine uq_ (HOw.out _) hB ?_;clear hB;intro wk hB;obtain ⟨c0,c1,c2,c3,c4⟩:=HK.out _ hB;go_wp2_with fail;refine uq_ (HFr.out _ (HRLb.out _ hB).1 (HRLb.out _ hB).2.1) hB ?_;clear hB;intro wk hB;obtain ⟨c0,c1,c2,c3,c4⟩:=HK.out _ hB;go_wp2_with fail;refine uq_ (HFa.out _ (HL.out.below hB)) hB ?_;clear hB;intro wk hB;obtain ⟨c0,c1,c2,c3,c4⟩:=HK.out _ hB;go_wp2_with fail;refine uq_ (HAw.out _ (HT.out.below hB) (HRg.out.below hB)) hB ?_;clear hB;intro wk hB;go_wp2_with fail;go_ret;exact ⟨rfl,ht_ HB0.out hB⟩
  | true =>
   rw [hfa] at HFa;clear hfa
   go_enter Tryz.func8,Tryz.ntmps8
   go_wp2_with fail;rw [← HW.out];refine uq_ (HOw.out _) hB ?_;clear hB;intro wk hB;obtain ⟨c0,c1,c2,c3,c4⟩:=HK.out _ hB;go_wp2_with fail;refine uq_ (HFr.out _ (HRLb.out _ hB).1 (HRLb.out _ hB).2.1) hB ?_;clear hB;intro wk hB;obtain ⟨c0,c1,c2,c3,c4⟩:=HK.out _ hB;go_wp2_with fail;refine uq_ (HFa.out _ (HL.out.below hB)) hB ?_;clear hB;intro wk hB;obtain ⟨c0,c1,c2,c3,c4⟩:=HK.out _ hB;go_wp2_with fail;refine uq_ (HUr.out _ (HRLc.out _ hB) (HL.out.below hB)) hB ?_;clear hB;intro wk hB;obtain ⟨c0,c1,c2,c3,c4⟩:=HK.out _ hB;go_wp2_with fail;replace hB:=q18 hB 1;obtain ⟨c0,c1,c2,c3,c4⟩:=HK.out _ hB
   go_region_held3 (fun w'=>w'.cell? ⟨w.heap.size,0,none⟩=some (.slice A0 n0 d0)∧w'.cell? ⟨w.heap.size,1,none⟩=some (.slice A1 n1 d1)∧w'.cell? ⟨w.heap.size,2,none⟩=some (.slice A2 X.length d2)∧w'.cell? ⟨w.heap.size+1,0,none⟩=some (.int .i64 u)∧w'.cell? ⟨w.heap.size+1,1,none⟩=some (.int .i64 a)) (exact ⟨c0,c1,c2,c3,c4⟩) (first | (go_at_call 12;refine uq_ (HOw.out _) hB ?_;clear hB;intro wk hB;obtain ⟨c0,c1,c2,c3,c4⟩:=HK.out _ hB) | (go_at_call 36;refine uq_ (HRr.out _ (HRLc.out _ hB) (HL.out.below hB)) hB ?_;clear hB;intro wk hB;obtain ⟨c0,c1,c2,c3,c4⟩:=HK.out _ hB))
   go_wp2_with fail;refine (HUo.out _ (HRLc.out _ hB) (HL.out.below hB)).mono ?_;rintro e wk ⟨B1,e1,rfl,hin1,hb⟩;replace hB:=ht_ hB hb;have HI1:=hj_ hin1;clear hb hin1;obtain ⟨c0,c1,c2,c3,c4⟩:=HK.out _ hB;go_wp2_with fail;refine (HOw.out _).mono ?_;rintro e wk ⟨rfl,hb⟩;replace hB:=ht_ hB hb;replace HI1:=hj_ (HI1.out.below hb);clear hb;obtain ⟨c0,c1,c2,c3,c4⟩:=HK.out _ hB;go_wp2_with fail;refine (HRo.out _ (HRLc.out _ hB) (HL.out.below hB)).mono ?_;rintro e wk ⟨B2,e2,rfl,hin2,hb⟩;replace hB:=ht_ hB hb;replace HI1:=hj_ (HI1.out.below hb);have HI2:=hj_ hin2;clear hb hin2;obtain ⟨c0,c1,c2,c3,c4⟩:=HK.out _ hB;go_wp2_with fail;refine (HAw.out _ (HT.out.below hB) (HRg.out.below hB)).mono ?_;rintro e wk ⟨rfl,hb⟩;replace hB:=ht_ hB hb;replace HI1:=hj_ (HI1.out.below hb);replace HI2:=hj_ (HI2.out.below hb);clear hb;obtain ⟨c0,c1,c2,c3,c4⟩:=HK.out _ hB;go_wp2_with fail;refine uq_ (HSm.out _ _ _ _ _ HI1.out HI2.out) hB ?_;clear hB;intro wk hB;simp only [decide_true];go_wp2_with fail;go_ret;exact ⟨by first | rfl | exact ret_b (by simp),HFin.out _ hB⟩
theorem q09q (w:World) (g:RG) (hg:g.good w) (A:Option Addr) (n c:Nat) (l:List Fm) (hl:shFm.In w A n l) (hgl:∀ g ∈ l,g.good) (_:n≤maxLen) (hby:n*24≤reachBytes) (p:PT) (_:OkI p.1∧OkI p.2) (hL:Laid w) :
  Calls Tryz.prog 8 #[.agg g.cs.toArray,.slice A n c,.agg (shP.cs p).toArray] w fun e w'=>e=.returned (.bool true)∧Below w.heap.size w w':=by
 obtain ⟨H,L,PL,X,hg⟩:=hg;exact q09r w g H L PL X hg A n c l hl (by unfold reachBytes at hby;omega) (fun x hx=>by have h:=hgl x hx;unfold Fm.good maxLen at h;omega) p.1 p.2 hL.1 hL.2
end Go.Proofs.YtbfikenbgfnfiaaGreatDoor

namespace Go.Proofs.YtbfikenbgfnfiaaGreatDoor.universeReadsP
set_option maxHeartbeats 32000000
set_option maxRecDepth 100000
open _root_.Go.Proofs.Tryz
open Go.ChangeShapes Go.ChangeMaps Go.WideShapes Go.ChangeAt Go.RowKit
theorem lifted (os:Os) (started:os.Started) (H:Type) (enc:TypeId × Value→H) :
  ReturnsInHanded {} Tryz.checked os 8 .any (fun w args=>(Rows.universeReadsSpec.pre enc Tryz.prog Tryz.f8 [] false w args∧laidMetH Tryz.prog Rows.universeReadsRow.laid w)∧sizedMet enc Tryz.prog Tryz.f8 (OpenSpec.ofChange Rows.universeReadsSpec) false w args)
   (Rows.universeReadsSpec.post enc Tryz.prog Tryz.f8 false true false false):=by
 refine returnsInHanded_of_change_and (C:=Tryz.checked) (X:=fun w _=>laidMetH Tryz.prog Rows.universeReadsRow.laid w) (fun _ _ _ hh h=>h.of_heap hh) own_ started (by kernel_rfl) Tryz.func8
  (ChangeSpec.witness_at (enc:=enc) (C:=Tryz.checked) (os:=os) (X:=fun w _=>laidMetH Tryz.prog Rows.universeReadsRow.laid w) false (qcj os) #[.agg #[.slice none 0 0,.slice none 0 0,.slice none 0 0],.slice none 0 0,.agg #[.int .i64 0,.int .i64 0]] 8 rfl (by kernel_rfl) (by kernel_rfl) (by kernel_rfl) (by kernel_rfl) (by kernel_rfl) (qck os _)) ?_
 intro W base args ds gs before hval0 hW _ hWt hL _;have hval:∀ (j:Nat) t v,Tryz.f8.params[j]? = some t→args[j]? = some v→Value.okWide Tryz.prog W .any base t v:=hval0;have hW':=hW;obtain ⟨p,q,hA0,hV,rfl,hfz,hnd⟩:=hW;have hA:DataW.TrodAll enc Tryz.prog W 0 (fun _=>true) true Tryz.f8.params.toList args.toList ds p:=hA0
 rw [Tryz.params8] at hA hval hWt;obtain ⟨v0,vs0,d0,ds0,p0,q0,hargs,rfl,rfl,h0,r0⟩:=trodAll_cons hA;obtain ⟨v1,vs1,d1,ds1,p1,q1,rfl,rfl,rfl,h1,r1⟩:=trodAll_cons r0;obtain ⟨v2,vs2,d2,ds2,p2,q2,rfl,rfl,rfl,h2,r2⟩:=trodAll_cons r1;obtain ⟨rfl,rfl,rfl⟩:=trodAll_nil r2;obtain rfl:args=#[v0,v1,v2]:=by cases args;simp_all
 obtain ⟨rfl,rfl⟩:=trodVars_none hV;have lt0:∀ x ∈ p0,x.block<W.heap.size:=by obtain ⟨m,hm⟩:=h0;exact DataW.trod_lt m _ _ _ hm
 obtain ⟨cs0,fuel0,y0,rfl,hf0⟩:=q0a Tryz.underlying26 (hval 0 26 v0 rfl rfl) h0;obtain ⟨g0,rfl,hg0⟩:=qmc hf0;have lt1:∀ x ∈ p1,x.block<W.heap.size:=by obtain ⟨m,hm⟩:=h1;exact DataW.trod_lt m _ _ _ hm
 obtain ⟨A1,n1,c1,rfl⟩:=okWide_slice Tryz.underlying33 (hval 1 33 v1 rfl rfl);have k1:=h1;obtain ⟨fuel1,hf1⟩:=k1;obtain ⟨l1,hl1,hg1,hn1,hx1⟩:=qfc shFm Tryz.underlying33 (by kernel_rfl:Tryz.prog.cellsOf 66=shFm.z) (by decide) ⟨0,⟨#[]⟩⟩ _ (fun _ _ _ h=>q9j h) hf1
 have hby1:n1*24≤reachBytes:=by
  rcases hx1 with h | ⟨el,sp,e1,e2⟩
  ·rw [h];decide
  ·have hs:(el.length+sp.length)*Tryz.prog.bytesOf 66≤reachBytes:=sized_slice hWt (j:=1) (t:=33) (e:=66) (elems:=el) (spare:=sp) rfl (congrArg some e1) Tryz.underlying33
   rw [show Tryz.prog.bytesOf 66=24 by kernel_rfl] at hs
   rw [e2];exact Nat.le_trans (Nat.mul_le_mul_right _ (Nat.le_add_right _ _)) hs
 have lt2:∀ x ∈ p2,x.block<W.heap.size:=by obtain ⟨m,hm⟩:=h2;exact DataW.trod_lt m _ _ _ hm
 obtain ⟨cs2,fuel2,y2,rfl,hf2⟩:=q0a Tryz.underlying43 (hval 2 43 v2 rfl rfl) h2;obtain ⟨g2,rfl,hg2⟩:=qgj hf2;clear hA0 hval0 hWt;simp only [List.append_nil] at hW';refine (q09q W g0 hg0 A1 n1 c1 l1 hl1 hg1 hn1 hby1 g2 hg2 (qcl hL)).mono fun e W' ⟨he,bel⟩=>?_
 subst he;exact ⟨_,rfl,_,_,_,[],_,[],hW',trodAll_mk1 (shut_bool Tryz.underlying4 _),(trodAll_cons_mk (Below.trod qci (by kernel_rfl) (of_decide_eq_true (by kernel_rfl)) h0 bel lt0) (trodAll_cons_mk (Below.trod qci (by kernel_rfl) (of_decide_eq_true (by kernel_rfl)) h1 bel lt1) (trodAll_cons_mk (Below.trod qci (by kernel_rfl) (of_decide_eq_true (by kernel_rfl)) h2 bel lt2) trodAll_mk0))),rfl,bel.frame _,fun h=>by cases h⟩
theorem over:Rows.universeReadsRow.holds Tryz.pinned (OpenSpec.ofChange Rows.universeReadsSpec) :=
 OpenClaim.holds_of_wide 8 Tryz.f8 rfl rfl rfl rfl rfl rfl rfl ⟨rfl,rfl,rfl,rfl,rfl⟩ rfl rfl rfl rfl rfl (by kernel_rfl) Tryz.func8 q09p
  (of_decide_eq_true (by kernel_rfl)) (by unfold Func.isWrapper;rw [if_neg (of_decide_eq_false (by kernel_rfl))];exact ⟨rfl,rfl⟩)
  (fun os started H enc _=>lifted os started H enc)
theorem qew:∀ t ∈ Tryz.f8.params.toList,Tryz.prog.wantsStandIn t=false:=by
 rw [Tryz.params8];intro t ht;simp only [List.mem_cons,List.not_mem_nil,or_false] at ht
 rcases ht with rfl | rfl | rfl <;> kernel_rfl
theorem limb1:OpenClaim.wfByText (OpenSpec.ofChange Rows.universeReadsSpec) Rows.universeReadsRow=true:=by kernel_rfl
theorem limb2 : Tryz.pinned.checked.prog.mainIs = some ((true, "3c05e574faa5d82a202099566cff212858ae0478407842340229b14b3e1e5c6e").1, (true, "3c05e574faa5d82a202099566cff212858ae0478407842340229b14b3e1e5c6e").2.toList) := by kernel_rfl
theorem limb3:true=Tryz.pinned.checked.prog.looks []:=by kernel_rfl
theorem limb4:false=Rows.universeReadsRow.goesBy Tryz.pinned.checked.prog:=by kernel_rfl
theorem limb5 : Tryz.prog.funcNamed "luminaire/luminairelaw13.UniverseReads" = some 8 := by kernel_rfl
theorem proved:Rows.UniverseReadsCardSaid :=
 Claim7.holds_tied_plain_at .later [] [.data, .data, .data, .data, .sentinel, .sentinel, .pinned] true (true, "3c05e574faa5d82a202099566cff212858ae0478407842340229b14b3e1e5c6e") true
  over (fun _ h=>by cases h) limb1 (fun _ h=>by cases h) universeReads_row_tie rfl ⟨rfl,rfl⟩ limb2 rfl
  (fun f fn hf hfn=>by
   obtain rfl:f=8:=Option.some.inj (limb5.symm.trans hf) |>.symm
   obtain rfl:fn=Tryz.f8:=(Option.some.inj (Tryz.func8.symm.trans hfn)).symm;exact ⟨limb3,fun j t ht=>qew t (Array.mem_toList_iff.2 (Array.mem_of_getElem? ht))⟩)
  limb4
#print axioms proved
end Go.Proofs.YtbfikenbgfnfiaaGreatDoor.universeReadsP
