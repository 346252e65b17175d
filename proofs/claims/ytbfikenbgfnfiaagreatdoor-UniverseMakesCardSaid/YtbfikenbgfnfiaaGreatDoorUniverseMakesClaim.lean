/- UniverseMakes: for every input the law returns true, and its arguments read behind the call as they read before. The package variables that the row lists hold what the program's text lays. -/
import Derived.Test.YtbfikenbgfnfiaaGreatDoorMUniD
import Derived.Test.YtbfikenbgfnfiaaGreatDoorMUniE
import Derived.Test.YtbfikenbgfnfiaaGreatDoorMUniH
import Derived.Test.YtbfikenbgfnfiaaGreatDoorMUniG
import Derived.Test.YtbfikenbgfnfiaaGreatDoorMUniI
import Derived.Test.YtbfikenbgfnfiaaGreatDoorMLaw
import Derived.Test.YtbfikenbgfnfiaaGreatDoorHUniverseMakes
import Derived.Test.YtbfikenbgfnfiaaGreatDoorCards
import Derived.Test.YtbfikenbgfnfiaaGreatDoorTie
import Derived.SevenTiedAt
import Derived.SizedLaws
import Derived.Test.YtbfikenbgfnfiaaGreatDoorMUp
namespace Go.Proofs.YtbfikenbgfnfiaaGreatDoor
set_option maxHeartbeats 32000000
open _root_.Go.Proofs.Tryz
open Go.RowKit
theorem q9i (L:List (List PT)) (PL:List (PC × List Fea)) (X:List Fx) (l:List Am):(frV L PL X l).length≤8:=by
 unfold frV
 by_cases h:frE L PL X l≠0
 ·rw [if_pos h];simp
 ·rw [if_neg h];exact q9k _ _ 8
set_option maxRecDepth 100000 in
theorem qko (A0:Option Addr) (n0 d0:Nat) (H:List Hd) (L:List (List PT)) (A1:Option Addr) (n1 d1:Nat) (PL:List (PC × List Fea)) (A2:Option Addr) (n2 d2:Nat) (X:List Fx) (A3:Option Addr) (n3 d3:Nat) (l:List Am) (w:World)
  (hl:InN w A0 n0 H L) (hm:∀ h ∈ H,h.n≤9223372036854775807) (hn0:n0≤9223372036854775807) (hp:InPs w A1 n1 PL) (hpo:PsOK PL) (hn1:n1≤9223372036854775806) (hnd1:n1≤d1) (hd1:d1≤9223372036854775807) (hx:shX.In w A2 n2 X) (hn2:n2≤9223372036854775806) (hcb:∀ x ∈ X,x.cb.size≤9223372036854775807)
  (ha:shAm.In w A3 n3 l) (hn3:n3≤9223372036854775806) (hs:∀ a ∈ l,a.lev.size≤120) :
  Calls Tryz.prog 16 #[.agg #[.slice A0 n0 d0,.slice A1 n1 d1,.slice A2 n2 d2],.slice A3 n3 d3] w fun e w'=>∃ r,e=.returned (.tuple #[r,.int .i64 (frE L PL X l)])∧shFm.Out 66 (frV L PL X l) w r w':=by
 have HCk:=Lib.hid (fun w h1 h2 h3=>ql9 A0 n0 d0 H L A1 n1 d1 PL A2 n2 d2 X w h1 hm hn0 h2 hpo hn1 hnd1 hd1 h3 hn2 hcb)
 have HAm:=Lib.hid (fun w h1=>qks A3 n3 d3 l w h1 hn3 (fun a h=>Nat.le_trans (hs a h) (by decide)))
 have HMd:=Lib.hid (fun w h1 h2 h3 h4 (h5:uniE L PL X=0) (h6:givE l=0)=>qkp A0 n0 d0 H L A1 n1 d1 PL A2 n2 d2 X A3 n3 d3 l w h1 hn0 h2 hn1 h3 h4 hn3 hs h5 h6)
 have hfE:frE L PL X l=if uniE L PL X≠0 then uniE L PL X else givE l:=rfl
 have hfV:frV L PL X l=if frE L PL X l≠0 then [] else frmG (usedU X) (pageV L l PL X) 8:=rfl
 rw [hfV];obtain ⟨W,hW⟩:∃ W,W=(w.alloc (.cells #[.slice A0 n0 d0,.slice A1 n1 d1,.slice A2 n2 d2] 29)):=⟨_,rfl⟩;obtain ⟨hB0,hK0⟩:=box1 #[.slice A0 n0 d0,.slice A1 n1 d1,.slice A2 n2 d2] 29 w W hW;have hK:∀ w',Below W.heap.size W w'→w'.cell? ⟨w.heap.size,0,none⟩=some (.slice A0 n0 d0)∧w'.cell? ⟨w.heap.size,1,none⟩=some (.slice A1 n1 d1)∧w'.cell? ⟨w.heap.size,2,none⟩=some (.slice A2 n2 d2):=fun w' h=>⟨(hK0 w' h) 0 _ rfl,(hK0 w' h) 1 _ rfl,(hK0 w' h) 2 _ rfl⟩
 have HK:=Lib.hid hK;have HW:=Lib.hid hW;have HB0:=Lib.hid hB0;have hB:=Below.refl W.heap.size W;obtain ⟨c0,c1,c2⟩:=hK W hB;clear hW hB0 hK hK0;have HL:=Lib.hid (hl.below HB0.out);have HP:=Lib.hid (hp.below HB0.out);have HX:=Lib.hid (hx.below HB0.out);have HA:=Lib.hid (ha.below HB0.out);clear hl hm hn0 hp hpo hn1 hnd1 hd1 hx hn2 hcb ha hn3 hs hfV
 by_cases hu:uniE L PL X=0
 case neg =>
  rw [if_pos hu] at hfE;rw [hfE,if_pos hu];generalize uniE L PL X=E at *;have g1:(E == 0)=false:=by simpa using hu
  have g2:(E != 0)=true:=by simpa using hu
  clear hfE hu
  go_enter Tryz.func16,Tryz.ntmps16
  go_wp2_with fail;rw [← HW.out];refine uq_ (HCk.out _ (HL.out.below hB) (HP.out.below hB) (HX.out.below hB)) hB ?_;clear hB;intro wk hB;go_wp2_with fail;go_ret2;exact ⟨_,rfl,Sh.Out.nil (HB0.out.trans (hB.mono HB0.out.size))⟩
 rw [if_neg (fun h=>h hu)] at hfE
 rw [hu] at HCk
 by_cases hg:givE l=0
 case neg =>
  rw [hfE,if_pos hg];generalize givE l=E at *;have g1:(E == 0)=false:=by simpa using hg
  have g2:(E != 0)=true:=by simpa using hg
  clear hfE hg hu
  go_enter Tryz.func16,Tryz.ntmps16
  go_wp2_with fail;rw [← HW.out];refine uq_ (HCk.out _ (HL.out.below hB) (HP.out.below hB) (HX.out.below hB)) hB ?_;clear hB;intro wk hB;obtain ⟨c0,c1,c2⟩:=HK.out _ hB;go_wp2_with fail;refine uq_ (HAm.out _ (HA.out.below hB)) hB ?_;clear hB;intro wk hB;go_wp2_with fail;go_ret2;exact ⟨_,rfl,Sh.Out.nil (HB0.out.trans (hB.mono HB0.out.size))⟩
 rw [hfE,hg,if_neg (fun h=>h rfl)]
 rw [hg] at HAm;have HMd2:=Lib.hid (fun w h1 h2 h3 h4=>HMd.out w h1 h2 h3 h4 hu hg)
 clear hfE hg hu HMd;generalize frmG (usedU X) (pageV L l PL X) 8=FF at *
 go_enter Tryz.func16,Tryz.ntmps16
 go_wp2_with fail;rw [← HW.out];refine uq_ (HCk.out _ (HL.out.below hB) (HP.out.below hB) (HX.out.below hB)) hB ?_;clear hB;intro wk hB;obtain ⟨c0,c1,c2⟩:=HK.out _ hB;go_wp2_with fail;refine uq_ (HAm.out _ (HA.out.below hB)) hB ?_;clear hB;intro wk hB;obtain ⟨c0,c1,c2⟩:=HK.out _ hB;go_wp2_with fail;refine (HMd2.out _ (HL.out.below hB) (HP.out.below hB) (HX.out.below hB) (HA.out.below hB)).mono ?_;rintro e w5 ⟨r,rfl,A,c,rfl,ho,hb⟩;have HOut:=Lib.hid (show shFm.Out 66 FF w (.slice A FF.length c) w5 from Sh.Out.up ⟨A,c,rfl,ho,hb⟩ (HB0.out.trans (hB.mono HB0.out.size)))
 clear ho hb;go_wp2_with fail;go_ret2;exact ⟨_,rfl,HOut.out⟩
set_option maxRecDepth 100000 in
theorem qu5 (w:World) (g:RG) (H:List Hd) (L:List (List PT)) (PL:List (PC × List Fea)) (X:List Fx) (hg:g.Is w H L PL X) (A:Option Addr) (n c:Nat) (l:List Am) (hl:shAm.In w A n l) (hn:n≤9223372036854775806) (ht:Tab w) (hr:Rng w) :
  Calls Tryz.prog 3 #[.agg g.cs.toArray,.slice A n c] w fun e w'=>e=.returned (.bool true)∧Below w.heap.size w w':=by
 obtain ⟨A0,n0,d0,A1,n1,d1,A2,n2,d2⟩:=g;obtain ⟨rfl,_⟩:=id hl;show Calls Tryz.prog 3 #[.agg #[.slice A0 n0 d0,.slice A1 n1 d1,.slice A2 n2 d2],.slice A l.length c] w fun e w'=>e=.returned (.bool true)∧Below w.heap.size w w'
 obtain ⟨⟨hl0,hm,hn0⟩,⟨hp,hpo,hnd1,hd1⟩,hx,⟨hnd2,hd2⟩,hcb⟩:=hg;dsimp only at hl0 hn0 hp hnd1 hd1 hx hnd2 hd2;have HOw:=Lib.hid (fun w=>qdg A0 n0 d0 A1 n1 d1 A2 n2 d2 w)
 have HAw:=Lib.hid (fun w ht hr=>qtq w ht hr)
 have HFr:=Lib.hid (fun w h1 h2=>qm7 A0 n0 d0 H L A1 n1 d1 PL A2 n2 d2 w h1 hn0 h2 (Nat.le_trans hnd1 hd1))
 have HFa:=Lib.hid (fun w h=>qm4 A l.length c l w h hn)
 have HUf:=Lib.hid (fun w h1 h2 h3 h4 (hn1:n1≤9223372036854775806) (hs:∀ a ∈ l,a.lev.size≤120) h5 h6=>qtn A0 n0 d0 H L A1 n1 d1 PL A2 n2 d2 X A l.length c l w h1 hm hn0 h2 hn1 h3 hnd2 hd2 hcb h4 hn hs h5 h6)
 have HRf:=Lib.hid (fun w h1 h2 h3 h4 (hn1:n1≤9223372036854775806) (hn2:n2≤9223372036854775806) (hs:∀ a ∈ l,a.lev.size≤120)=>qko A0 n0 d0 H L A1 n1 d1 PL A2 n2 d2 X A l.length c l w h1 hm hn0 h2 hpo hn1 hnd1 hd1 h3 hn2 hcb h4 hn hs)
 have HRs:=Lib.hid (fun A2' A3' c2 c3 w h1 h2=>qnj A2' A3' (frV L PL X l).length (frV L PL X l).length c2 c3 (frV L PL X l) (frV L PL X l) w h1 h2 (by have:=q9i L PL X l;omega) (by have:=q9i L PL X l;omega))
 rw [decide_eq_true (rfl:frV L PL X l=frV L PL X l)] at HRs;have HRL:=Lib.hid (And.intro hl0 (And.intro hp hx));have HL:=Lib.hid hl;have HT:=Lib.hid ht;have HRg:=Lib.hid hr;have HN:=Lib.hid hn;have hn1l:n1=PL.length:=by have:=hp.1.1;simpa using this
 have HN1:=Lib.hid hn1l;generalize frV L PL X l=FV at *;generalize frE L PL X l=FE at *;clear hl hn ht hr hl0 hm hn0 hp hpo hnd1 hd1 hx hnd2 hd2 hcb hn1l;obtain ⟨W,hW⟩:∃ W,W=(w.alloc (.cells #[.slice A0 n0 d0,.slice A1 n1 d1,.slice A2 n2 d2] 26)):=⟨_,rfl⟩;obtain ⟨hB0,hK0⟩:=box1 #[.slice A0 n0 d0,.slice A1 n1 d1,.slice A2 n2 d2] 26 w W hW;have hK:∀ w',Below W.heap.size W w'→w'.cell? ⟨w.heap.size,0,none⟩=some (.slice A0 n0 d0)∧w'.cell? ⟨w.heap.size,1,none⟩=some (.slice A1 n1 d1)∧w'.cell? ⟨w.heap.size,2,none⟩=some (.slice A2 n2 d2):=fun w' h=>⟨(hK0 w' h) 0 _ rfl,(hK0 w' h) 1 _ rfl,(hK0 w' h) 2 _ rfl⟩
 have HK:=Lib.hid hK;have HW:=Lib.hid hW;have HB0:=Lib.hid hB0;have hB:=Below.refl W.heap.size W;obtain ⟨c0,c1,c2⟩:=hK W hB;clear hW hB0 hK hK0;have HRLb:=Lib.hid (fun (w':World) (h:Below W.heap.size W w')=>show InN w' A0 n0 H L∧InR w' A1 n1 PL∧shX.In w' A2 n2 X from ⟨(HRL.out.1.below HB0.out).below h,(HRL.out.2.1.below HB0.out).below h,(HRL.out.2.2.below HB0.out).below h⟩)
 replace HL:=Lib.hid (HL.out.below HB0.out);replace HT:=Lib.hid (HT.out.below HB0.out);replace HRg:=Lib.hid (HRg.out.below HB0.out);have HFin:=Lib.hid (fun (w':World) (h:Below W.heap.size W w')=>HB0.out.trans (h.mono HB0.out.size))
 cases hfr:fewRg L PL n2 with
 | false =>
  rw [hfr] at HFr;clear hfr
  go_enter Tryz.func3,Tryz.ntmps3
  go_wp2_with fail;rw [← HW.out];refine uq_ (HOw.out _) hB ?_;clear hB;intro wk hB;obtain ⟨c0,c1,c2⟩:=HK.out _ hB;go_wp2_with fail;refine uq_ (HFr.out _ (HRLb.out _ hB).1 (HRLb.out _ hB).2.1) hB ?_;clear hB;intro wk hB;obtain ⟨c0,c1,c2⟩:=HK.out _ hB;go_wp2_with fail;refine uq_ (HAw.out _ (HT.out.below hB) (HRg.out.below hB)) hB ?_;clear hB;intro wk hB;go_wp2_with fail;go_ret;exact ⟨rfl,HB0.out.trans (hB.mono HB0.out.size)⟩
 | true =>
  have hfw:=q7x hfr;have hn1:n1≤40:=by rw [HN1.out];exact hfw.1
  have hn2:n2≤70:=hfw.2.1;have HRLc:=Lib.hid (fun (w':World) (h:Below W.heap.size W w')=>show InN w' A0 n0 H L∧InPs w' A1 n1 PL∧shX.In w' A2 n2 X from ⟨(HRLb.out _ h).1,(HRLb.out _ h).2.1.few hfr,(HRLb.out _ h).2.2⟩)
  replace HUf:=Lib.hid (fun w (h:InN w A0 n0 H L∧InPs w A1 n1 PL∧shX.In w A2 n2 X) h4 hs=>HUf.out w h.1 h.2.1 h.2.2 h4 (by omega) hs)
  replace HRf:=Lib.hid (fun w (h:InN w A0 n0 H L∧InPs w A1 n1 PL∧shX.In w A2 n2 X) h4 hs=>HRf.out w h.1 h.2.1 h.2.2 h4 (by omega) (by omega) hs)
  rw [hfr] at HFr;clear hfr hfw hn1 hn2
  cases hfa:fewAm l with
  | false =>
   rw [hfa] at HFa;clear hfa
   go_enter Tryz.func3,Tryz.ntmps3
   go_wp2_with fail;rw [← HW.out];refine uq_ (HOw.out _) hB ?_;clear hB;intro wk hB;obtain ⟨c0,c1,c2⟩:=HK.out _ hB;go_wp2_with fail;refine uq_ (HFr.out _ (HRLb.out _ hB).1 (HRLb.out _ hB).2.1) hB ?_;clear hB;intro wk hB;obtain ⟨c0,c1,c2⟩:=HK.out _ hB;go_wp2_with fail;refine uq_ (HFa.out _ (HL.out.below hB)) hB ?_;clear hB;intro wk hB;obtain ⟨c0,c1,c2⟩:=HK.out _ hB;go_wp2_with fail;refine uq_ (HAw.out _ (HT.out.below hB) (HRg.out.below hB)) hB ?_;clear hB;intro wk hB;go_wp2_with fail;go_ret;exact ⟨rfl,HB0.out.trans (hB.mono HB0.out.size)⟩
  | true =>
   rw [hfa] at HFa;have hs:∀ a ∈ l,a.lev.size≤120:=fun a h=>Nat.le_trans ((q7o hfa).2 a h) (by decide)
   replace HUf:=Lib.hid (fun w h1 h4=>HUf.out w h1 h4 hs)
   replace HRf:=Lib.hid (fun w h1 h4=>HRf.out w h1 h4 hs)
   clear hfa hs
   go_enter Tryz.func3,Tryz.ntmps3
   go_wp2_with fail;rw [← HW.out];refine uq_ (HOw.out _) hB ?_;clear hB;intro wk hB;obtain ⟨c0,c1,c2⟩:=HK.out _ hB;go_wp2_with fail;refine uq_ (HFr.out _ (HRLb.out _ hB).1 (HRLb.out _ hB).2.1) hB ?_;clear hB;intro wk hB;obtain ⟨c0,c1,c2⟩:=HK.out _ hB;go_wp2_with fail;refine uq_ (HFa.out _ (HL.out.below hB)) hB ?_;clear hB;intro wk hB;obtain ⟨c0,c1,c2⟩:=HK.out _ hB;go_wp2_with fail;refine (HUf.out _ (HRLc.out _ hB) (HL.out.below hB) (HT.out.below hB) (HRg.out.below hB)).mono ?_;rintro e w5 ⟨r,rfl,B2,c2',rfl,ho,hb⟩;have HI2:=Lib.hid (Sh.In.of_own ho rfl);replace hB:=hB.trans (hb.mono hB.size);clear ho hb;obtain ⟨c0,c1,c2⟩:=HK.out _ hB;go_wp2_with fail;refine (HOw.out _).mono ?_;rintro e w6 ⟨rfl,hb⟩;have HI3:=Lib.hid (HI2.out.below hb);replace hB:=hB.trans (hb.mono hB.size);clear hb;obtain ⟨c0,c1,c2⟩:=HK.out _ hB;go_wp2_with fail;refine (HRf.out _ (HRLc.out _ hB) (HL.out.below hB)).mono ?_;rintro e w7 ⟨r,rfl,B3,c3',rfl,ho,hb⟩;have HI4:=Lib.hid (HI3.out.below hb);have HI5:=Lib.hid (Sh.In.of_own ho rfl);replace hB:=hB.trans (hb.mono hB.size);clear ho hb;obtain ⟨c0,c1,c2⟩:=HK.out _ hB;go_wp2_with fail;refine (HAw.out _ (HT.out.below hB) (HRg.out.below hB)).mono ?_;rintro e w8 ⟨rfl,hb⟩;have HI6:=Lib.hid (HI4.out.below hb);have HI7:=Lib.hid (HI5.out.below hb);replace hB:=hB.trans (hb.mono hB.size);clear hb;go_wp2_with fail;refine uq_ (HRs.out _ _ _ _ _ HI6.out HI7.out) hB ?_;clear hB;intro w9 hB;go_wp2_with fail;go_ret;exact ⟨ret_b (by simp),HFin.out _ hB⟩
theorem qxz (w:World) (g:RG) (hg:g.good w) (A:Option Addr) (n c:Nat) (l:List Am) (hl:shAm.In w A n l) (_:∀ g ∈ l,g.good) (_:n≤maxLen) (hby:n*32≤reachBytes) (hL:Laid w) :
  Calls Tryz.prog 3 #[.agg g.cs.toArray,.slice A n c] w fun e w'=>e=.returned (.bool true)∧Below w.heap.size w w':=by
 obtain ⟨H,L,PL,X,hg⟩:=hg;exact qu5 w g H L PL X hg A n c l hl (by unfold reachBytes at hby;omega) hL.1 hL.2
end Go.Proofs.YtbfikenbgfnfiaaGreatDoor

namespace Go.Proofs.YtbfikenbgfnfiaaGreatDoor.universeMakesP
set_option maxHeartbeats 32000000
open _root_.Go.Proofs.Tryz
open Go.ChangeShapes Go.ChangeMaps Go.WideShapes Go.ChangeAt Go.RowKit
set_option maxRecDepth 100000 in
theorem lifted (os:Os) (started:os.Started) (H:Type) (enc:TypeId × Value→H) :
  ReturnsInHanded {} Tryz.checked os 3 .any (fun w args=>(Rows.universeMakesSpec.pre enc Tryz.prog Tryz.f3 [] false w args∧laidMetH Tryz.prog Rows.universeMakesRow.laid w)∧sizedMet enc Tryz.prog Tryz.f3 (OpenSpec.ofChange Rows.universeMakesSpec) false w args)
   (Rows.universeMakesSpec.post enc Tryz.prog Tryz.f3 false true false false):=by
 refine returnsInHanded_of_change_and (C:=Tryz.checked) (X:=fun w _=>laidMetH Tryz.prog Rows.universeMakesRow.laid w) (fun _ _ _ hh h=>h.of_heap hh) own_ started (by kernel_rfl) Tryz.func3
  (ChangeSpec.witness_at (enc:=enc) (C:=Tryz.checked) (os:=os) (X:=fun w _=>laidMetH Tryz.prog Rows.universeMakesRow.laid w) false (qcj os) #[.agg #[.slice none 0 0,.slice none 0 0,.slice none 0 0],.slice none 0 0] 8 rfl (by kernel_rfl) (by kernel_rfl) (by kernel_rfl) (by kernel_rfl) (by kernel_rfl) (qck os _)) ?_
 intro W base args ds gs before hval0 hW _ hWt hL _;have hval:∀ (j:Nat) t v,Tryz.f3.params[j]? = some t→args[j]? = some v→Value.okWide Tryz.prog W .any base t v:=hval0;have hW':=hW;obtain ⟨p,q,hA0,hV,rfl,hfz,hnd⟩:=hW;have hA:DataW.TrodAll enc Tryz.prog W 0 (fun _=>true) true Tryz.f3.params.toList args.toList ds p:=hA0
 rw [Tryz.params3] at hA hval hWt;obtain ⟨v0,vs0,d0,ds0,p0,q0,hargs,rfl,rfl,h0,r0⟩:=trodAll_cons hA;obtain ⟨v1,vs1,d1,ds1,p1,q1,rfl,rfl,rfl,h1,r1⟩:=trodAll_cons r0;obtain ⟨rfl,rfl,rfl⟩:=trodAll_nil r1;obtain rfl:args=#[v0,v1]:=by cases args;simp_all
 obtain ⟨rfl,rfl⟩:=trodVars_none hV;have lt0:∀ x ∈ p0,x.block<W.heap.size:=by obtain ⟨m,hm⟩:=h0;exact DataW.trod_lt m _ _ _ hm
 obtain ⟨cs0,fuel0,y0,rfl,hf0⟩:=q0a Tryz.underlying26 (hval 0 26 v0 rfl rfl) h0;obtain ⟨g0,rfl,hg0⟩:=qmc hf0;have lt1:∀ x ∈ p1,x.block<W.heap.size:=by obtain ⟨m,hm⟩:=h1;exact DataW.trod_lt m _ _ _ hm
 obtain ⟨A1,n1,c1,rfl⟩:=okWide_slice Tryz.underlying27 (hval 1 27 v1 rfl rfl);have k1:=h1;obtain ⟨fuel1,hf1⟩:=k1;obtain ⟨l1,hl1,hg1,hn1,hx1⟩:=qfc shAm Tryz.underlying27 (by kernel_rfl:Tryz.prog.cellsOf 46=shAm.z) (by decide) ⟨0,0,⟨#[]⟩⟩ _ (fun _ _ _ h=>q0i h) hf1
 have hby1:n1*32≤reachBytes:=by
  rcases hx1 with h | ⟨el,sp,e1,e2⟩
  ·rw [h];decide
  ·have hs:(el.length+sp.length)*Tryz.prog.bytesOf 46≤reachBytes:=sized_slice hWt (j:=1) (t:=27) (e:=46) (elems:=el) (spare:=sp) rfl (congrArg some e1) Tryz.underlying27
   rw [show Tryz.prog.bytesOf 46=32 by kernel_rfl] at hs
   rw [e2];exact Nat.le_trans (Nat.mul_le_mul_right _ (Nat.le_add_right _ _)) hs
 clear hA0 hval0 hWt;simp only [List.append_nil] at hW';refine (qxz W g0 hg0 A1 n1 c1 l1 hl1 hg1 hn1 hby1 (qcl hL)).mono fun e W' ⟨he,bel⟩=>?_
 subst he;exact ⟨_,rfl,_,_,_,[],_,[],hW',trodAll_mk1 (shut_bool Tryz.underlying4 _),(trodAll_cons_mk (Below.trod qci (by kernel_rfl) (of_decide_eq_true (by kernel_rfl)) h0 bel lt0) (trodAll_cons_mk (Below.trod qci (by kernel_rfl) (of_decide_eq_true (by kernel_rfl)) h1 bel lt1) trodAll_mk0)),rfl,bel.frame _,fun h=>by cases h⟩
theorem over:Rows.universeMakesRow.holds Tryz.pinned (OpenSpec.ofChange Rows.universeMakesSpec) :=
 OpenClaim.holds_of_wide 3 Tryz.f3 rfl rfl rfl rfl rfl rfl rfl ⟨rfl,rfl,rfl,rfl,rfl⟩ rfl rfl rfl rfl rfl (by kernel_rfl) Tryz.func3 qx1
  (of_decide_eq_true (by kernel_rfl)) (by unfold Func.isWrapper;rw [if_neg (of_decide_eq_false (by kernel_rfl))];exact ⟨rfl,rfl⟩)
  (fun os started H enc _=>lifted os started H enc)
theorem qew:∀ t ∈ Tryz.f3.params.toList,Tryz.prog.wantsStandIn t=false:=by
 rw [Tryz.params3];intro t ht;simp only [List.mem_cons,List.not_mem_nil,or_false] at ht
 rcases ht with rfl | rfl <;> kernel_rfl
theorem limb1:OpenClaim.wfByText (OpenSpec.ofChange Rows.universeMakesSpec) Rows.universeMakesRow=true:=by kernel_rfl
theorem limb2 : Tryz.pinned.checked.prog.mainIs = some ((true, "3c05e574faa5d82a202099566cff212858ae0478407842340229b14b3e1e5c6e").1, (true, "3c05e574faa5d82a202099566cff212858ae0478407842340229b14b3e1e5c6e").2.toList) := by kernel_rfl
theorem limb3:true=Tryz.pinned.checked.prog.looks []:=by kernel_rfl
theorem limb4:false=Rows.universeMakesRow.goesBy Tryz.pinned.checked.prog:=by kernel_rfl
theorem limb5 : Tryz.prog.funcNamed "luminaire/luminairelaw13.UniverseMakes" = some 3 := by kernel_rfl
theorem proved:Rows.UniverseMakesCardSaid :=
 Claim7.holds_tied_plain_at .later [] [.data, .data, .data, .data, .sentinel, .sentinel, .pinned] true (true, "3c05e574faa5d82a202099566cff212858ae0478407842340229b14b3e1e5c6e") true
  over (fun _ h=>by cases h) limb1 (fun _ h=>by cases h) universeMakes_row_tie rfl ⟨rfl,rfl⟩ limb2 rfl
  (fun f fn hf hfn=>by
   obtain rfl:f=3:=Option.some.inj (limb5.symm.trans hf) |>.symm
   obtain rfl:fn=Tryz.f3:=(Option.some.inj (Tryz.func3.symm.trans hfn)).symm;exact ⟨limb3,fun j t ht=>qew t (Array.mem_toList_iff.2 (Array.mem_of_getElem? ht))⟩)
  limb4
#print axioms proved
end Go.Proofs.YtbfikenbgfnfiaaGreatDoor.universeMakesP
