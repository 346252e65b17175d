/- UniverseDepends: for every input the law returns true, and its arguments read behind the call as they read before. The package variables that the row lists hold what the program's text lays. -/
import Derived.Test.YtbfikenbgfnfiaaGreatDoorMUniI
import Derived.Test.YtbfikenbgfnfiaaGreatDoorMUniJ
import Derived.Test.YtbfikenbgfnfiaaGreatDoorMUniE
import Derived.Test.YtbfikenbgfnfiaaGreatDoorMUniG
import Derived.Deep.RegionHeld3
import Derived.Test.YtbfikenbgfnfiaaGreatDoorMLaw
import Derived.Test.YtbfikenbgfnfiaaGreatDoorHUniverseDepends
import Derived.Test.YtbfikenbgfnfiaaGreatDoorCards
import Derived.Test.YtbfikenbgfnfiaaGreatDoorTie
import Derived.SevenTiedAt
import Derived.SizedLaws
import Derived.Test.YtbfikenbgfnfiaaGreatDoorMUp
namespace Go.Proofs.YtbfikenbgfnfiaaGreatDoor
set_option maxHeartbeats 32000000
open _root_.Go.Proofs.Tryz
open Go.RowKit
set_option maxRecDepth 100000 in
theorem q00t (w:World) (g:RG) (H:List Hd) (L:List (List PT)) (PL:List (PC × List Fea)) (X:List Fx) (hg:g.Is w H L PL X) (A:Option Addr) (n c:Nat) (l:List Am) (hl:shAm.In w A n l) (hn:n≤9223372036854775806) (wh:Int) (hw0:0≤wh) (hw1:wh≤255) (ht:Tab w) (hr:Rng w) :
  Calls Tryz.prog 4 #[.agg g.cs.toArray,.slice A n c,.int .u8 wh] w fun e w'=>e=.returned (.bool true)∧Below w.heap.size w w':=by
 obtain ⟨A0,n0,d0,A1,n1,d1,A2,n2,d2⟩:=g;obtain ⟨rfl,_⟩:=id hl;show Calls Tryz.prog 4 #[.agg #[.slice A0 n0 d0,.slice A1 n1 d1,.slice A2 n2 d2],.slice A l.length c,.int .u8 wh] w fun e w'=>e=.returned (.bool true)∧Below w.heap.size w w'
 have hn1l:n1=PL.length:=by have:=hg.2.1.1.1.1;simpa using this
 obtain rfl:n2=X.length:=hg.2.2.1.1;have HRt1:=Lib.hid (fun w h1 h2=>qch A0 n0 d0 A1 n1 d1 A2 X.length d2 H L PL X A l.length c l w h1 h2 hn)
 have HAw:=Lib.hid (fun w ht hr=>qtq w ht hr)
 have HG:=Lib.hid hg;have HL:=Lib.hid hl;have HT:=Lib.hid ht;have HRg:=Lib.hid hr;have HN1:=Lib.hid hn1l;have HN:=Lib.hid hn;clear hg hl hn ht hr hn1l;obtain ⟨W,hW⟩:∃ W,W=((w.alloc (.cells #[.slice A0 n0 d0,.slice A1 n1 d1,.slice A2 X.length d2] 26)).alloc (.cells #[.slice A l.length c] 27)):=⟨_,rfl⟩;obtain ⟨hB0,hK0⟩:=box2 #[.slice A0 n0 d0,.slice A1 n1 d1,.slice A2 X.length d2] 26 #[.slice A l.length c] 27 w W hW;have hK:∀ w',Below W.heap.size W w'→w'.cell? ⟨w.heap.size,0,none⟩=some (.slice A0 n0 d0)∧w'.cell? ⟨w.heap.size,1,none⟩=some (.slice A1 n1 d1)∧w'.cell? ⟨w.heap.size,2,none⟩=some (.slice A2 X.length d2)∧w'.cell? ⟨w.heap.size+1,0,none⟩=some (.slice A l.length c):=fun w' h=>⟨(hK0 w' h).1 0 _ rfl,(hK0 w' h).1 1 _ rfl,(hK0 w' h).1 2 _ rfl,(hK0 w' h).2 0 _ rfl⟩
 have HK:=Lib.hid hK;have HW:=Lib.hid hW;have HB0:=Lib.hid hB0;have hB:=Below.refl W.heap.size W;obtain ⟨c0,c1,c2,c3⟩:=hK W hB;clear hW hB0 hK hK0;replace HG:=Lib.hid (HG.out.below HB0.out);replace HL:=Lib.hid (HL.out.below HB0.out);replace HT:=Lib.hid (HT.out.below HB0.out);replace HRg:=Lib.hid (HRg.out.below HB0.out);have HFin:=Lib.hid (fun (w':World) (h:Below W.heap.size W w')=>HB0.out.trans (h.mono HB0.out.size))
 cases hr1:rgtB L PL X l with
 | false =>
  rw [hr1] at HRt1;clear hr1
  go_enter Tryz.func4,Tryz.ntmps4
  go_wp2_with fail;rw [← HW.out];refine uq_ (HRt1.out _ (HG.out.below hB) (HL.out.below hB)) hB ?_;clear hB;intro wk hB;obtain ⟨c0,c1,c2,c3⟩:=HK.out _ hB;go_wp2_with fail;refine uq_ (HAw.out _ (HT.out.below hB) (HRg.out.below hB)) hB ?_;clear hB;intro wk hB;go_wp2_with fail;go_ret;exact ⟨rfl,HB0.out.trans (hB.mono HB0.out.size)⟩
 | true =>
  rw [hr1] at HRt1
  by_cases hl0:l.length=0
  ·have z1:((l.length:Int) == 0)=true:=by rw [beq_iff_eq];omega
   clear hr1 hl0
   go_enter Tryz.func4,Tryz.ntmps4
   go_wp2_with fail;rw [← HW.out];refine uq_ (HRt1.out _ (HG.out.below hB) (HL.out.below hB)) hB ?_;clear hB;intro wk hB;obtain ⟨c0,c1,c2,c3⟩:=HK.out _ hB;go_wp2_with fail;refine uq_ (HAw.out _ (HT.out.below hB) (HRg.out.below hB)) hB ?_;clear hB;intro wk hB;go_wp2_with fail;go_ret;exact ⟨rfl,HB0.out.trans (hB.mono HB0.out.size)⟩
  have z1:((l.length:Int) == 0)=false:=by rw [beq_eq_false_iff_ne];omega
  obtain ⟨q1,q2,q3,q4⟩:=rgt_of hr1;have hlen:=(q7o q2).1;obtain ⟨k,hk⟩:∃ k:Nat,(k:Int)=wh.tmod l.length:=⟨(wh.tmod l.length).toNat,by have:=Int.tmod_nonneg (b:=(l.length:Int)) (a:=wh) hw0;omega⟩
  have hkl:k<l.length:=by have:=Int.tmod_lt_of_pos wh (show (0:Int)<l.length by omega);omega
  have r1:IntKind.i64.wrap wh=wh:=IntWalk.i64_in _ (by omega)
  have r2:IntKind.i64.wrap (wh.tmod l.length)=(k:Int):=by rw [← hk];exact IntWalk.i64_in _ (by omega)
  have r3:IntKind.i64.wrap ((k:Int)+1)=(k:Int)+1:=IntWalk.i64_in _ (by omega)
  have HKk:=Lib.hid hk;clear hk hw0 hw1
  go_enter Tryz.func4,Tryz.ntmps4
  go_wp2_with fail;rw [← HW.out];refine uq_ (HRt1.out _ (HG.out.below hB) (HL.out.below hB)) hB ?_;clear hB;intro wk hB;obtain ⟨c0,c1,c2,c3⟩:=HK.out _ hB;have s0:W.heap.size=w.heap.size+2:=by rw [HW.out];simp
  have s1:=hB.size;have m1:w.heap.size<wk.heap.size:=by omega
  have m2:¬ w.heap.size=wk.heap.size:=by omega
  have m3:w.heap.size+1<wk.heap.size:=by omega
  have m4:¬ w.heap.size+1=wk.heap.size:=by omega
  obtain ⟨W1,hW1⟩:∃ W1,W1=wk.alloc (.cells #[.int .i64 (wh.tmod l.length)] 3):=⟨_,rfl⟩;have hb1:Below wk.heap.size wk W1:=by rw [hW1];exact (Below.refl _ _).alloc (Nat.le_refl _) _
  have HK1:=Lib.hid (show Cells W1 wk.heap.size [.int .i64 (k:Int)] by rw [hW1,HKk.out];exact Cells.fresh wk [.int .i64 (wh.tmod l.length)] _)
  have HB1:=Lib.hid (hB.trans (hb1.mono hB.size));have HW1:=Lib.hid hW1;have HKb:=Lib.hid (fun (w':World) (h:Below W1.heap.size W1 w')=>show (w'.cell? ⟨w.heap.size,0,none⟩=some (.slice A0 n0 d0)∧w'.cell? ⟨w.heap.size,1,none⟩=some (.slice A1 n1 d1)∧w'.cell? ⟨w.heap.size,2,none⟩=some (.slice A2 X.length d2)∧w'.cell? ⟨w.heap.size+1,0,none⟩=some (.slice A l.length c))∧w'.cell? ⟨wk.heap.size,0,none⟩=some (.int .i64 (k:Int)) from ⟨HK.out _ (HB1.out.trans (h.mono HB1.out.size)),(h.cell (p:=⟨wk.heap.size,0,none⟩) HK1.out.1).trans (HK1.out.at_ (j:=0) rfl)⟩)
  clear hW1 hb1 s0 s1;go_wp2_with fail;rw [← HW1.out];have HF1:=Lib.hid (fun (w:World) (h:RG.Is w ⟨A0,n0,d0,A1,n1,d1,A2,X.length,d2⟩ H L PL X) (h4:shAm.In w A l.length l) ht hr=>qtn A0 n0 d0 H L A1 n1 d1 PL A2 X.length d2 X A l.length c l w h.1.1 h.1.2.1 h.1.2.2 (h.2.1.1.few q1) (by have h9:=(q7x q1).1;have h8:=HN1.out;omega) h.2.2.1 h.2.2.2.1.1 h.2.2.2.1.2 h.2.2.2.2 h4 HN.out (fun a h=>Nat.le_trans ((q7o q2).2 a h) (by decide)) ht hr)
  have hos:∀ a ∈ outA l k,a.lev.size≤120:=fun a h=>Nat.le_trans ((q7o q2).2 a ((qfn l k).subset h)) (by decide)
  have HF2:=Lib.hid (fun (B:Option Addr) (e:Nat) (w:World) (h:RG.Is w ⟨A0,n0,d0,A1,n1,d1,A2,X.length,d2⟩ H L PL X) (h4:shAm.In w B (k+(l.length-(k+1))) (outA l k)) ht hr=>qtn A0 n0 d0 H L A1 n1 d1 PL A2 X.length d2 X B (k+(l.length-(k+1))) e (outA l k) w h.1.1 h.1.2.1 h.1.2.2 (h.2.1.1.few q1) (by have h9:=(q7x q1).1;have h8:=HN1.out;omega) h.2.2.1 h.2.2.2.1.1 h.2.2.2.1.2 h.2.2.2.2 h4 (by omega) hos ht hr)
  obtain ⟨fe1,fv1,fr1,fl1⟩:=q00r q3 q4 (l:=l);obtain ⟨fe2,fv2,fr2,fl2⟩:=q00r q3 (qa9 q4 k) (l:=outA l k);rw [fe1] at HF1;rw [fe2] at HF2;have HFv:=Lib.hid (And.intro fv1 fv2);have HFl:=Lib.hid (And.intro (And.intro fr1 fl1) (And.intro fr2 fl2));clear fe1 fe2 fv1 fv2 fr1 fl1 fr2 fl2;have HCl:=Lib.hid (fun w h=>q3l A l.length c l w h hlen)
  have HDe:=Lib.hid (fun base g cap w h=>q54 base g cap l k w h hkl hlen)
  refine (HF1.out _ (HG.out.below HB1.out) (HL.out.below HB1.out) (HT.out.below HB1.out) (HRg.out.below HB1.out)).mono ?_;rintro e w5 ⟨r,rfl,B1,e1,rfl,ho,hb⟩;have HI1:=Lib.hid (Sh.In.of_own ho rfl);have HBk:=Lib.hid hb;clear ho hb;go_wp2_with fail;have HBd:=Lib.hid (fun (w':World) (h:Below w5.heap.size w5 w')=>HB1.out.trans ((HBk.out.trans (h.mono HBk.out.size)).mono HB1.out.size))
  replace HKb:=Lib.hid (fun (w':World) (h:Below w5.heap.size w5 w')=>HKb.out w' (HBk.out.trans (h.mono HBk.out.size)))
  have hX:=q18 (Below.refl w5.heap.size w5) 1;obtain ⟨⟨c0,c1,c2,c3⟩,k0⟩:=HKb.out _ hX;have hpos:0<l.length:=by omega
  go_region_held3 (fun w'=>w'.cell? ⟨w.heap.size,0,none⟩=some (.slice A0 n0 d0)∧w'.cell? ⟨w.heap.size,1,none⟩=some (.slice A1 n1 d1)∧w'.cell? ⟨w.heap.size,2,none⟩=some (.slice A2 X.length d2)∧w'.cell? ⟨w.heap.size+1,0,none⟩=some (.slice A l.length c)∧w'.cell? ⟨wk.heap.size,0,none⟩=some (.int .i64 (k:Int))) (exact ⟨c0,c1,c2,c3,k0⟩) (first | (go_at_call 20;refine (HCl.out _ (HL.out.below (HBd.out _ hX))).mono ?_;rintro e w6 ⟨v',rfl,hown,hb⟩;obtain ⟨g,cap,rfl,hg0,hg1⟩:=hown.form hpos;have hgs:=hX.size;have hX':=hX.trans (hb.mono hX.size);clear hX hb;have hX:=hX';clear hX';obtain ⟨⟨c0,c1,c2,c3⟩,k0⟩:=HKb.out _ hX) | (go_at_call 19;refine (HDe.out _ _ _ _ hown).mono ?_;rintro e w7 ⟨rfl,hIn,hgr⟩;have hX':=hX.grown hgr hX.size (fun q e=>by cases e;omega);clear hX hgr hown;have hX:=hX';clear hX';obtain ⟨⟨c0,c1,c2,c3⟩,k0⟩:=HKb.out _ hX) | (go_at_call 15;refine (HF2.out _ _ _ (HG.out.below (HBd.out _ hX)) hIn (HT.out.below (HBd.out _ hX)) (HRg.out.below (HBd.out _ hX))).mono ?_;rintro e w8 ⟨r,rfl,B2,e2,rfl,ho,hb⟩;have HI2:=Lib.hid (Sh.In.of_own ho rfl);have hX':=hX.trans (hb.mono hX.size);clear hX hb ho;have hX:=hX';clear hX';obtain ⟨⟨c0,c1,c2,c3⟩,k0⟩:=HKb.out _ hX))
  have HI3:=Lib.hid (HI1.out.below hX);have HXx:=Lib.hid hX;obtain ⟨⟨fr1,fl1⟩,fr2,fl2⟩:=HFl.out;have hsa:∀ x ∈ frV L PL X l,x.sl.size≤9223372036854775807:=fun x hx=>by have:=(fr1.2 x hx).2.2;omega
  have hsb:∀ x ∈ frV L PL X (outA l k),x.sl.size≤9223372036854775807:=fun x hx=>by have:=(fr2.2 x hx).2.2;omega
  have HCh:=Lib.hid (fun w h1 h2=>qtl B1 (frV L PL X l).length e1 B2 (frV L PL X (outA l k)).length e2 (frV L PL X l) (frV L PL X (outA l k)) w h1 h2 (by omega) (by omega) hsa hsb)
  obtain ⟨t1,t6⟩:=chg_ok q3 q4 (qa9 q4 k) (l:=l) (m:=outA l k);have HCn:=Lib.hid t6;have hdu:∀ x ∈ chgV (frV L PL X l) (frV L PL X (outA l k)),X.any (fun y=>decide (y.ch=l[k].ch) && usesB (PL.map Prod.fst) y x.un x.ad)=true:=fun x hx=>by
   unfold chgV at hx;rw [if_neg (fun h=>h t1)] at hx
   rw [HFv.out.1,HFv.out.2] at hx;exact q5f q3 hkl hx
  rw [t1] at HCh;have HDu:=Lib.hid hdu;have hFx:=(qu8 q3).2.2.1;have HFx:=Lib.hid hFx;clear HFv HFl;generalize chgV (frV L PL X l) (frV L PL X (outA l k))=C at *;generalize frV L PL X l=FA at *;generalize frV L PL X (outA l k)=FB at *;clear t1 t6 fl1 fl2 hdu hsa hsb fr1 fr2 hX hFx c0 c1 c2 c3 k0;go_wp2_with fail;refine (HCh.out _ HI3.out HI2.out).mono ?_;rintro e w9 ⟨r,rfl,B3,e3,rfl,ho,hb⟩;have HC3:=Lib.hid (Sh.In.of_own ho rfl);have HX9:=Lib.hid (HXx.out.trans (hb.mono HXx.out.size));clear ho hb;go_wp2_with fail;clear HCl HDe HF1 HF2 HRt1 HCh HI1 HI2 HI3 hos hpos r1 r2 r3 m1 m2 m3 m4 z1 q2 q3 q4 hlen
  go_loopw [62] (fun iv wr=>∃ i:Nat,i≤C.length∧iv=.int .i64 i∧Below w9.heap.size w9 wr) (fun iv _=>C.length-(intOf iv).toNat)
  case atStart=>exact ⟨0,Nat.zero_le _,rfl,Below.refl _ _⟩
  case round =>
   obtain ⟨i,hi,rfl,hR⟩:=hrel
   rename World=>V3
   have hB:=HX9.out.trans (hR.mono HX9.out.size);have HBv:=Lib.hid hB;obtain ⟨⟨c0,c1,c2,c3⟩,c4⟩:=HKb.out _ hB
   by_cases hlt:i<C.length
   case neg =>
    have hi':¬ (i:Int)<(C.length:Int):=by omega
    go_wp2_with fail;refine (HAw.out _ (HT.out.below (HBd.out _ HBv.out)) (HRg.out.below (HBd.out _ HBv.out))).mono ?_;rintro e wz ⟨rfl,hb⟩;have hz:=HBd.out _ (HBv.out.trans (hb.mono HBv.out.size));clear hb;go_wp2_with fail;go_ret;exact ⟨rfl,HFin.out _ hz⟩
   case pos =>
    obtain ⟨b,o,rfl,hbl,hcell⟩:=cg_at HC3.out (by omega)
    obtain ⟨k0,k1,k2⟩:=hcell i hlt;have p0:=(hR.cell (p:=⟨b,o+i*3,none⟩) hbl).trans k0;have p1:=(hR.cell (p:=⟨b,o+i*3+1,none⟩) hbl).trans k1;have p2:=(hR.cell (p:=⟨b,o+i*3+2,none⟩) hbl).trans k2;have hbw:b<V3.heap.size:=Nat.lt_of_lt_of_le hbl hR.size;have i0:(0:Int)≤(i:Int):=by omega
    have i1:(i:Int)<(C.length:Int):=by omega
    have w0:IntKind.i64.wrap ((i:Int)+1)=(i:Int)+1:=IntWalk.i64_in _ (by have:=HCn.out;omega)
    have hd:=HDu.out C[i] (List.getElem_mem hlt);clear hcell k0 k1 k2;generalize C[i]=x at *;obtain ⟨xu,xa,xb⟩:=x;dsimp only at p0 p1 p2 hd;obtain ⟨W2,hW2⟩:∃ W2,W2=V3.alloc (.cells #[.int .i64 xu,.int .i64 xa,.int .i64 xb] 52):=⟨_,rfl⟩;have hb2:Below V3.heap.size V3 W2:=by rw [hW2];exact (Below.refl _ _).alloc (Nat.le_refl _) _
    have hX2:Cells W2 V3.heap.size [.int .i64 xu,.int .i64 xa,.int .i64 xb]:=by rw [hW2];exact Cells.fresh V3 [.int .i64 xu,.int .i64 xa,.int .i64 xb] _
    have hB2:=hB.trans (hb2.mono hB.size);have HR2:=Lib.hid (hR.trans (hb2.mono hR.size));have HKw:=Lib.hid (fun (w':World) (h:Below W2.heap.size W2 w')=>HKb.out w' (hB2.trans (h.mono hB2.size)))
    have HGw:=Lib.hid (fun (w':World) (h:Below W2.heap.size W2 w')=>HG.out.below (HBd.out _ (hB2.trans (h.mono hB2.size))))
    have HLw:=Lib.hid (fun (w':World) (h:Below W2.heap.size W2 w')=>HL.out.below (HBd.out _ (hB2.trans (h.mono hB2.size))))
    have hsz:W.heap.size≤W2.heap.size:=(HBd.out _ hB2).size;have hsz2:wk.heap.size<W2.heap.size:=Nat.lt_of_lt_of_le HK1.out.1 (Nat.le_trans HBk.out.size hB2.size);have hct:=q3u 23 #[.pointer (some ⟨w.heap.size+1,0,none⟩),.pointer (some ⟨wk.heap.size,0,none⟩),.pointer (some ⟨w.heap.size,0,none⟩),.pointer (some ⟨V3.heap.size,0,none⟩)] (fun y=>decide (y.ch=l[k].ch) && usesB (PL.map Prod.fst) y xu xa) A2 X.length d2 X W2 (enters_of Tryz.func23 (by kernel_rfl) rfl) (HGw.out _ (Below.refl _ _)).2.2.1 (by have:=HG.out.2.2.2.1;dsimp only at this;omega) (fun q hq w' h=>by
     obtain ⟨⟨e0,e1,e2,e3⟩,e4⟩:=HKw.out _ h;have hx2:=hX2.below h hX2.1;refine qcr (PL.map Prod.fst) X[q] (w.heap.size+1) wk.heap.size w.heap.size V3.heap.size A c l k A1 n1 d1 xu xa w' e3 e4 e1 (hx2.at_ (j:=0) rfl) (hx2.at_ (j:=1) rfl) ?_ ?_ ?_ hx2.1 (HLw.out _ h) hkl (HGw.out _ h).2.1.1.1 ?_ (HFx.out q hq)
     ·have:=HW.out;have:=h.size;have h2:W.heap.size=w.heap.size+2:=by rw [HW.out];simp
      omega
     ·have:=h.size;omega
     ·have h2:W.heap.size=w.heap.size+2:=by rw [HW.out];simp
      have:=h.size
      omega
     ·have h9:=(q7x q1).1
      have h8:=HN1.out
      omega)
    rw [hd] at hct;have HCt:=Lib.hid hct;have HW2:=Lib.hid hW2;have m1:w.heap.size<V3.heap.size:=by
                          have h2:W.heap.size=w.heap.size+2:=by rw [HW.out];simp
                          have:=(HBd.out _ hB).size
                          omega
    have m2:¬ w.heap.size=V3.heap.size:=by omega
    clear hct hW2 hb2 hX2 hB2 hsz hsz2 hd;go_wp2_with fail;rw [← HW2.out];refine HCt.out.mono ?_;rintro e w6 ⟨rfl,hb⟩;have HR6:=Lib.hid (HR2.out.trans (hb.mono HR2.out.size));clear hb;go_wp2_with fail
    go_roundw
    case rel=>exact ⟨i+1,hlt,by go_num,HR6.out⟩
    case measure=>simp [intOf];omega
theorem q00u (w:World) (g:RG) (hg:g.good w) (A:Option Addr) (n c:Nat) (l:List Am) (hl:shAm.In w A n l) (_:∀ g ∈ l,g.good) (_:n≤maxLen) (hby:n*32≤reachBytes) (x:Int) (hx:(Lit.int .u8 x).wf=true) (hL:Laid w) :
  Calls Tryz.prog 4 #[.agg g.cs.toArray,.slice A n c,.int .u8 x] w fun e w'=>e=.returned (.bool true)∧Below w.heap.size w w':=by
 obtain ⟨H,L,PL,X,hg⟩:=hg;have hb:0≤x∧x≤255:=by
  unfold Lit.wf at hx;rw [Bool.and_eq_true,decide_eq_true_eq,decide_eq_true_eq] at hx;exact ⟨hx.1,hx.2⟩
 exact q00t w g H L PL X hg A n c l hl (by unfold reachBytes at hby;omega) x hb.1 hb.2 hL.1 hL.2
end Go.Proofs.YtbfikenbgfnfiaaGreatDoor

namespace Go.Proofs.YtbfikenbgfnfiaaGreatDoor.universeDependsP
set_option maxHeartbeats 32000000
open _root_.Go.Proofs.Tryz
open Go.ChangeShapes Go.ChangeMaps Go.WideShapes Go.ChangeAt Go.RowKit
set_option maxRecDepth 100000 in
theorem lifted (os:Os) (started:os.Started) (H:Type) (enc:TypeId × Value→H) :
  ReturnsInHanded {} Tryz.checked os 4 .any (fun w args=>(Rows.universeDependsSpec.pre enc Tryz.prog Tryz.f4 [] false w args∧laidMetH Tryz.prog Rows.universeDependsRow.laid w)∧sizedMet enc Tryz.prog Tryz.f4 (OpenSpec.ofChange Rows.universeDependsSpec) false w args)
   (Rows.universeDependsSpec.post enc Tryz.prog Tryz.f4 false true false false):=by
 refine returnsInHanded_of_change_and (C:=Tryz.checked) (X:=fun w _=>laidMetH Tryz.prog Rows.universeDependsRow.laid w) (fun _ _ _ hh h=>h.of_heap hh) own_ started (by kernel_rfl) Tryz.func4
  (ChangeSpec.witness_at (enc:=enc) (C:=Tryz.checked) (os:=os) (X:=fun w _=>laidMetH Tryz.prog Rows.universeDependsRow.laid w) false (qcj os) #[.agg #[.slice none 0 0,.slice none 0 0,.slice none 0 0],.slice none 0 0,.int .u8 0] 8 rfl (by kernel_rfl) (by kernel_rfl) (by kernel_rfl) (by kernel_rfl) (by kernel_rfl) (qck os _)) ?_
 intro W base args ds gs before hval0 hW _ hWt hL _;have hval:∀ (j:Nat) t v,Tryz.f4.params[j]? = some t→args[j]? = some v→Value.okWide Tryz.prog W .any base t v:=hval0;have hW':=hW;obtain ⟨p,q,hA0,hV,rfl,hfz,hnd⟩:=hW;have hA:DataW.TrodAll enc Tryz.prog W 0 (fun _=>true) true Tryz.f4.params.toList args.toList ds p:=hA0
 rw [Tryz.params4] at hA hval hWt;obtain ⟨v0,vs0,d0,ds0,p0,q0,hargs,rfl,rfl,h0,r0⟩:=trodAll_cons hA;obtain ⟨v1,vs1,d1,ds1,p1,q1,rfl,rfl,rfl,h1,r1⟩:=trodAll_cons r0;obtain ⟨v2,vs2,d2,ds2,p2,q2,rfl,rfl,rfl,h2,r2⟩:=trodAll_cons r1;obtain ⟨rfl,rfl,rfl⟩:=trodAll_nil r2;obtain rfl:args=#[v0,v1,v2]:=by cases args;simp_all
 obtain ⟨rfl,rfl⟩:=trodVars_none hV;have lt0:∀ x ∈ p0,x.block<W.heap.size:=by obtain ⟨m,hm⟩:=h0;exact DataW.trod_lt m _ _ _ hm
 obtain ⟨cs0,fuel0,y0,rfl,hf0⟩:=q0a Tryz.underlying26 (hval 0 26 v0 rfl rfl) h0;obtain ⟨g0,rfl,hg0⟩:=qmc hf0;have lt1:∀ x ∈ p1,x.block<W.heap.size:=by obtain ⟨m,hm⟩:=h1;exact DataW.trod_lt m _ _ _ hm
 obtain ⟨A1,n1,c1,rfl⟩:=okWide_slice Tryz.underlying27 (hval 1 27 v1 rfl rfl);have k1:=h1;obtain ⟨fuel1,hf1⟩:=k1;obtain ⟨l1,hl1,hg1,hn1,hx1⟩:=qfc shAm Tryz.underlying27 (by kernel_rfl:Tryz.prog.cellsOf 46=shAm.z) (by decide) ⟨0,0,⟨#[]⟩⟩ _ (fun _ _ _ h=>q0i h) hf1
 have hby1:n1*32≤reachBytes:=by
  rcases hx1 with h | ⟨el,sp,e1,e2⟩
  ·rw [h];decide
  ·have hs:(el.length+sp.length)*Tryz.prog.bytesOf 46≤reachBytes:=sized_slice hWt (j:=1) (t:=27) (e:=46) (elems:=el) (spare:=sp) rfl (congrArg some e1) Tryz.underlying27
   rw [show Tryz.prog.bytesOf 46=32 by kernel_rfl] at hs
   rw [e2];exact Nat.le_trans (Nat.mul_le_mul_right _ (Nat.le_add_right _ _)) hs
 obtain ⟨x2,rfl,rfl,rfl,w2⟩:=open_int Tryz.underlying5 (hval 2 5 v2 rfl rfl) h2;clear hA0 hval0 hWt;simp only [List.append_nil] at hW';refine (q00u W g0 hg0 A1 n1 c1 l1 hl1 hg1 hn1 hby1 x2 w2 (qcl hL)).mono fun e W' ⟨he,bel⟩=>?_
 subst he;exact ⟨_,rfl,_,_,_,[],_,[],hW',trodAll_mk1 (shut_bool Tryz.underlying4 _),(trodAll_cons_mk (Below.trod qci (by kernel_rfl) (of_decide_eq_true (by kernel_rfl)) h0 bel lt0) (trodAll_cons_mk (Below.trod qci (by kernel_rfl) (of_decide_eq_true (by kernel_rfl)) h1 bel lt1) (trodAll_cons_mk (shut_int Tryz.underlying5 w2) trodAll_mk0))),rfl,bel.frame _,fun h=>by cases h⟩
theorem over:Rows.universeDependsRow.holds Tryz.pinned (OpenSpec.ofChange Rows.universeDependsSpec) :=
 OpenClaim.holds_of_wide 4 Tryz.f4 rfl rfl rfl rfl rfl rfl rfl ⟨rfl,rfl,rfl,rfl,rfl⟩ rfl rfl rfl rfl rfl (by kernel_rfl) Tryz.func4 qv7
  (of_decide_eq_true (by kernel_rfl)) (by unfold Func.isWrapper;rw [if_neg (of_decide_eq_false (by kernel_rfl))];exact ⟨rfl,rfl⟩)
  (fun os started H enc _=>lifted os started H enc)
theorem qew:∀ t ∈ Tryz.f4.params.toList,Tryz.prog.wantsStandIn t=false:=by
 rw [Tryz.params4];intro t ht;simp only [List.mem_cons,List.not_mem_nil,or_false] at ht
 rcases ht with rfl | rfl | rfl <;> kernel_rfl
theorem limb1:OpenClaim.wfByText (OpenSpec.ofChange Rows.universeDependsSpec) Rows.universeDependsRow=true:=by kernel_rfl
theorem limb2 : Tryz.pinned.checked.prog.mainIs = some ((true, "3c05e574faa5d82a202099566cff212858ae0478407842340229b14b3e1e5c6e").1, (true, "3c05e574faa5d82a202099566cff212858ae0478407842340229b14b3e1e5c6e").2.toList) := by kernel_rfl
theorem limb3:true=Tryz.pinned.checked.prog.looks []:=by kernel_rfl
theorem limb4:false=Rows.universeDependsRow.goesBy Tryz.pinned.checked.prog:=by kernel_rfl
theorem limb5 : Tryz.prog.funcNamed "luminaire/luminairelaw13.UniverseDepends" = some 4 := by kernel_rfl
theorem proved:Rows.UniverseDependsCardSaid :=
 Claim7.holds_tied_plain_at .later [] [.data, .data, .data, .data, .sentinel, .sentinel, .pinned] true (true, "3c05e574faa5d82a202099566cff212858ae0478407842340229b14b3e1e5c6e") true
  over (fun _ h=>by cases h) limb1 (fun _ h=>by cases h) universeDepends_row_tie rfl ⟨rfl,rfl⟩ limb2 rfl
  (fun f fn hf hfn=>by
   obtain rfl:f=4:=Option.some.inj (limb5.symm.trans hf) |>.symm
   obtain rfl:fn=Tryz.f4:=(Option.some.inj (Tryz.func4.symm.trans hfn)).symm;exact ⟨limb3,fun j t ht=>qew t (Array.mem_toList_iff.2 (Array.mem_of_getElem? ht))⟩)
  limb4
#print axioms proved
end Go.Proofs.YtbfikenbgfnfiaaGreatDoor.universeDependsP
