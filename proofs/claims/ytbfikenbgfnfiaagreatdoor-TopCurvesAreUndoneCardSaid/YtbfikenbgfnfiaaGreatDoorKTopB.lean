/- Lemmas and contracts of functions, joined for the claim: TCurve. -/
import Derived.Test.YtbfikenbgfnfiaaGreatDoorKTopA
import Derived.Test.YtbfikenbgfnfiaaGreatDoorKCurveC
import Derived.Test.YtbfikenbgfnfiaaGreatDoorKCurveB
import Derived.Test.YtbfikenbgfnfiaaGreatDoorKCurveA
import Derived.Test.YtbfikenbgfnfiaaGreatDoorKOpen
import Derived.Test.YtbfikenbgfnfiaaGreatDoorKUniG
import Derived.Test.YtbfikenbgfnfiaaGreatDoorKUniE
import Derived.Test.YtbfikenbgfnfiaaGreatDoorKRat
import Derived.Test.YtbfikenbgfnfiaaGreatDoorKLaw
import Derived.Deep.RegionHeld3
import Derived.Deep.Cut
import Derived.Test.YtbfikenbgfnfiaaGreatDoorKUp
namespace Go.Proofs.YtbfikenbgfnfiaaGreatDoor
set_option maxHeartbeats 32000000
open _root_.Go.Proofs.Tryz

section
open Go.RowKit
set_option maxRecDepth 100000 in
theorem q028 (w:World) (A:Option Addr) (n d:Nat) (l:List PT) (hl:shP.In w A n l) (hn:n≤9223372036854775806) (v:Int) (hv0:0≤v) (hv1:v≤65535) (ht:Tab w) (hr:Rng w) :
  Calls prog 10 #[.slice A n d,.int .u16 v] w fun e w'=>e=.returned (.bool true)∧Below w.heap.size w w':=by
 obtain ⟨rfl,_⟩:=id hl;have HLamp:=Lib.hid (fun w ht hr=>q029 w ht hr)
 have HFew:=Lib.hid (fun w=>qki A l.length d w)
 have HCk:=Lib.hid (fun (w:World) h=>qkh A l.length d l w h (by omega))
 have HSt:=Lib.hid (fun (w:World) h=>qkk A l.length d l w h hn)
 have HIn:=Lib.hid (fun (w:World) h=>q3b A l.length d l w h hn)
 have HRig:=Lib.hid (fun w=>q026 w)
 have HL:=Lib.hid hl;have HT:=Lib.hid ht;have HR:=Lib.hid hr;have HN:=Lib.hid hn;have hB:=Below.refl w.heap.size w;clear hl ht hr hn
 go_enter func10,ntmps10
 go_wp2_with fail;refine uq_ (HLamp.out _ (HT.out.below hB) (HR.out.below hB)) hB ?_;clear hB;intro wk hB
 by_cases h40:l.length≤40
 case neg =>
  rw [decide_eq_false h40] at HFew;clear h40;go_wp2_with fail;refine uq_ (HFew.out _) hB ?_;clear hB;intro wk hB;go_wp2_with fail;go_ret;exact ⟨rfl,hB⟩
 rw [decide_eq_true h40] at HFew;have H40:=Lib.hid h40;clear h40;go_wp2_with fail;refine uq_ (HFew.out _) hB ?_;clear hB;intro wk hB
 by_cases hck:chkC l=0
 case neg =>
  have g1:(chkC l == 0)=false:=by simpa using hck
  have g2:(chkC l != 0)=true:=by rw [bne,g1];rfl
  clear hck;go_wp2_with fail;refine uq_ (HCk.out _ (HL.out.below hB)) hB ?_;clear hB;intro wk hB;go_wp2_with fail;go_ret;exact ⟨rfl,hB⟩
 have HOk:=Lib.hid (q2t.1 hck);rw [hck] at HCk;clear hck;go_wp2_with fail;refine uq_ (HCk.out _ (HL.out.below hB)) hB ?_;clear hB;intro wk hB
 by_cases hsl:slC l=1
 case neg =>
  have g1:(slC l == 1)=false:=by simpa using hsl
  clear hsl;go_wp2_with fail;refine uq_ (HSt.out _ (HL.out.below hB)) hB ?_;clear hB;intro wk hB;go_wp2_with fail;go_ret;exact ⟨rfl,hB⟩
 rw [hsl] at HSt;have HSl:=Lib.hid hsl;clear hsl;go_wp2_with fail;refine uq_ (HSt.out _ (HL.out.below hB)) hB ?_;clear hB;intro wk hB;have hok:=HOk.out;have hsl:=HSl.out;have h40:=H40.out;have h2:=hok.two;have h16:=hok.few;have hq:=inv_up hok hsl;obtain ⟨k,hk⟩:∃ k,l.length=k+1:=⟨l.length-1,by omega⟩
 obtain ⟨b,o,rfl,hbl,hcell⟩:=pt_at HL.out (by omega)
 have y0:=(hB.cell (p:=⟨b,o+0*2+1,none⟩) hbl).trans (hcell 0 (by omega)).2
 have y1:=(hB.cell (p:=⟨b,o+k*2+1,none⟩) hbl).trans (hcell k (by omega)).2
 have e0:l[0].2=firstY l:=(q8e (by omega)).symm
 have e1:(l[k]'(by omega)).2=lastY l:=by rw [qcn (by omega)];simp [hk]
 rw [e0] at y0;rw [e1] at y1;rw [Nat.zero_mul,Nat.add_zero] at y0;have hbw:b<wk.heap.size:=Nat.lt_of_lt_of_le hbl hB.size;have i0:(0:Int)≤(k:Int):=by omega
 have i1:(k:Int)<(l.length:Int):=by omega
 have i2:(0:Int)<(l.length:Int):=by omega
 have w1:IntKind.i64.wrap ((l.length:Int)-1)=(k:Int):=by rw [show (l.length:Int)-1=k by omega];exact IntWalk.i64_in _ (by omega)
 have w2:IntKind.i64.wrap v=v:=IntWalk.i64_in _ (by omega)
 have H16:=Lib.hid h16;clear hcell e0 e1 h2 hok hk h40 h16
 by_cases hw:firstY l=0∧lastY l=65535
 case neg =>
  rw [if_neg hw] at hq;rw [hq] at HIn;clear hq
  by_cases h0:firstY l=0
  ·have g0:(firstY l == 0)=true:=by simpa using h0
   have g1:(lastY l == 65535)=false:=by simpa using fun e=>hw ⟨h0,e⟩
   have g3:(firstY l != 0)=false:=by rw [bne,g0];rfl
   have g4:(lastY l != 65535)=true:=by rw [bne,g1];rfl
   clear h0 hw hsl hv0 hv1;generalize firstY l=fy at *;generalize lastY l=ly at *;go_wp2_with fail;refine (HIn.out _ (HL.out.below hB)).mono ?_;rintro e w5 ⟨r,rfl,B1,e1,rfl,ho,hb⟩;replace hB:=hB.trans (hb.mono hB.size);clear ho hb y0 y1;go_wp2_with fail;go_ret;exact ⟨rfl,hB⟩
  ·have g0:(firstY l == 0)=false:=by simpa using h0
   have g3:(firstY l != 0)=true:=by rw [bne,g0];rfl
   clear h0 hw hsl hv0 hv1;generalize firstY l=fy at *;generalize lastY l=ly at *;go_wp2_with fail;refine (HIn.out _ (HL.out.below hB)).mono ?_;rintro e w5 ⟨r,rfl,B1,e1,rfl,ho,hb⟩;replace hB:=hB.trans (hb.mono hB.size);clear ho hb y0 y1;go_wp2_with fail;go_ret;exact ⟨rfl,hB⟩
 case pos =>
  clear hq;have hv:InL (v:Rat):=q25 ⟨hv0,hv1⟩;have hz:SzR 5 (v:Rat):=SzR.int (by show v.natAbs<100000;omega) (by decide)
  obtain ⟨q1,q2,q3,q4,q5⟩:=q01p HOk.out hsl (.inl hw) hv hz (by decide)
  have hfr:=fun G c' G' k'=>q01l HOk.out hsl (.inl hw) hv (hz.fit (by decide)) (q5.fit (by decide)) G c' G' k'
  have ht16:=(undone HOk.out hsl (.inl hw) hv).1.few;rw [q1,q2] at HIn;have hs5:(sR (v:Rat)).size≤120:=Nat.le_trans hz.len (by decide)
  have hs6:(sR (valC (turnC l) (v:Rat))).size≤120:=Nat.le_trans q5.len (by decide)
  have HAt:=Lib.hid (fun B e (w:World) h ht=>q28 B (turnC l).length e (turnC l) (sR (v:Rat)) w h (by omega) (by omega) ht)
  rw [q3,q4] at HAt;have HWh:=Lib.hid (fun w=>qrj (x:=v) (by omega) (by omega) w)
  generalize sR (v:Rat)=SV at *;generalize sR (valC (turnC l) (v:Rat))=SL at *;have HFr:=Lib.hid hfr;have HS5:=Lib.hid (And.intro hs5 hs6);have HT16:=Lib.hid ht16;clear hfr hs5 hs6 q1 q2 q3 q4 q5 hz hv hsl ht16 hv0 hv1;have g0:(firstY l == 0)=true:=by simpa using hw.1
  have g1:(lastY l == 65535)=true:=by simpa using hw.2
  have g3:(firstY l != 0)=false:=by rw [bne,g0];rfl
  have g4:(lastY l != 65535)=false:=by rw [bne,g1];rfl
  clear hw;generalize firstY l=fy at *;generalize lastY l=ly at *;go_wp2_with fail;refine (HIn.out _ (HL.out.below hB)).mono ?_;rintro e w5 ⟨r,rfl,B1,e1,rfl,ho,hb⟩;have HI5:=Lib.hid (Sh.In.of_own ho rfl);replace hB:=hB.trans (hb.mono hB.size);clear ho hb y0 y1 g0 g1 g3 g4 hbw;go_wp2_with fail;refine (HWh.out _).mono ?_;rintro e w6 ⟨rfl,hb⟩;have HI6:=Lib.hid (HI5.out.below hb);replace hB:=hB.trans (hb.mono hB.size);clear hb;go_wp2_with fail;refine uq_ (HAt.out _ _ _ HI6.out (HT.out.below hB)) hB ?_;clear hB;intro w7 hB;go_wp2_with fail;refine (HRig.out _).mono ?_;rintro e w8 ⟨G,gc,P1,P2,rfl,hG,hP1,hP2,hgc,⟨hge1,hge2,hge3⟩,⟨hne1,hne2,hne3⟩,hb⟩;have hsz8:=hB.size;have hB8:=hB.trans (hb.mono hB.size);obtain ⟨W,hW⟩:∃ W,W=(w8.alloc (.cells #[.slice none 0 0,.slice (some ⟨P1,0,none⟩) 1 1,.slice (some ⟨P2,0,none⟩) 1 1] 26)).alloc (.cells #[.int .i64 1,.int .i64 3] 43):=⟨_,rfl⟩;have hWs:W.heap.size=w8.heap.size+1+1:=by rw [hW];simp
  have hbW:Below w8.heap.size w8 W:=by rw [hW];exact ((Below.refl _ _).alloc (by simp) _).alloc (by simp) _
  have hK0:Cells W w8.heap.size [.slice none 0 0,.slice (some ⟨P1,0,none⟩) 1 1,.slice (some ⟨P2,0,none⟩) 1 1]:=by
   rw [hW];exact (Cells.fresh w8 [.slice none 0 0,.slice (some ⟨P1,0,none⟩) 1 1,.slice (some ⟨P2,0,none⟩) 1 1] _).below (B:=w8.heap.size+1) ((Below.refl _ _).alloc (by simp) _) (by omega)
  have hK1:Cells W (w8.heap.size+1) [.int .i64 1,.int .i64 3]:=by
   rw [hW]
   have:=Cells.fresh (w8.alloc (.cells #[.slice none 0 0,.slice (some ⟨P1,0,none⟩) 1 1,.slice (some ⟨P2,0,none⟩) 1 1] 26)) [.int .i64 1,.int .i64 3] 43
   simpa using this
  have hG2:=hG.below hbW hG.1;have hP12:=hP1.below hbW hP1.1;have hP22:=hP2.below hbW hP2.1;have HBW:=Lib.hid (hB8.trans (hbW.mono hB8.size));have HK0:=Lib.hid hK0;have HK1:=Lib.hid hK1;have HG2:=Lib.hid hG2;have HP12:=Lib.hid hP12;have HP22:=Lib.hid hP22;have HD:=Lib.hid (show (w.heap.size≤G∧w.heap.size≤P1∧w.heap.size≤P2)∧(G≠P1∧G≠P2∧P1≠P2)∧(G<w8.heap.size∧P1<w8.heap.size∧P2<w8.heap.size)∧W.heap.size=w8.heap.size+1+1∧w.heap.size≤w8.heap.size from ⟨⟨by omega,by omega,by omega⟩,⟨hne1,hne2,hne3⟩,⟨hG.1,hP1.1,hP2.1⟩,hWs,hB8.size⟩)
  have HGc:=Lib.hid hgc;have HW:=Lib.hid hW;clear hW hWs hbW hK0 hK1 hG2 hP12 hP22 hgc hge1 hge2 hge3 hne1 hne2 hne3 hb hG hP1 hP2 hsz8 hB8 hB;have HK:=Lib.hid (fun (w':World) (h:Below W.heap.size W w')=>show w'.cell? ⟨w8.heap.size,0,none⟩=some (.slice none 0 0)∧w'.cell? ⟨w8.heap.size,1,none⟩=some (.slice (some ⟨P1,0,none⟩) 1 1)∧w'.cell? ⟨w8.heap.size,2,none⟩=some (.slice (some ⟨P2,0,none⟩) 1 1)∧w'.cell? ⟨w8.heap.size+1,0,none⟩=some (.int .i64 1)∧w'.cell? ⟨w8.heap.size+1,1,none⟩=some (.int .i64 3) from
   have q:=HK0.out.below h HK0.out.1;have q':=HK1.out.below h HK1.out.1
   ⟨q.at_ (j:=0) rfl,q.at_ (j:=1) rfl,q.at_ (j:=2) rfl,q'.at_ (j:=0) rfl,q'.at_ (j:=1) rfl⟩)
  have HFin:=Lib.hid (fun (w':World) (h:Below W.heap.size W w')=>HBW.out.trans (h.mono HBW.out.size))
  have HF1:=Lib.hid (fun (w:World) (hp:InPs w (some ⟨P1,0,none⟩) 1 (lampPL G gc)) (hx:shX.In w (some ⟨P2,0,none⟩) 1 lampX) (B e:Nat) (ha:shAm.In w (some ⟨B,0,none⟩) 1 (oneA SV)) ht hr =>
   qtn none 0 0 [] [] (some ⟨P1,0,none⟩) 1 1 (lampPL G gc) (some ⟨P2,0,none⟩) 1 1 lampX (some ⟨B,0,none⟩) 1 e (oneA SV) w ⟨Sh.In.nil _ _,rfl,fun i h=>absurd h (Nat.not_lt_zero _)⟩ (fun h hh=>by cases hh) (by decide) hp (by decide) hx (by decide) (by decide) (fun x hx=>by
    unfold lampX at hx
    rcases List.mem_cons.1 hx with rfl | hx
    ·decide
    ·cases hx) ha (by decide) (fun a h=>by
    unfold oneA at h
    rcases List.mem_cons.1 h with rfl | h
    ·exact HS5.out.1
    ·cases h) ht hr)
  obtain ⟨fe1,fe2,fv,fl⟩:=HFr.out G gc G gc;rw [fe1] at HF1;have HF2:=Lib.hid (fun (w:World) (Bc:Nat) (hc:InN w (some ⟨Bc,0,none⟩) 1 [⟨some ⟨b,o,none⟩,l.length,d⟩] [l]) (hp:InPs w (some ⟨P1,0,none⟩) 1 (lampPC G gc)) (hx:shX.In w (some ⟨P2,0,none⟩) 1 lampX) (B e:Nat) (ha:shAm.In w (some ⟨B,0,none⟩) 1 (oneA SL)) ht hr =>
   qtn (some ⟨Bc,0,none⟩) 1 1 [⟨some ⟨b,o,none⟩,l.length,d⟩] [l] (some ⟨P1,0,none⟩) 1 1 (lampPC G gc) (some ⟨P2,0,none⟩) 1 1 lampX (some ⟨B,0,none⟩) 1 e (oneA SL) w hc (fun h hh=>by
    rcases List.mem_cons.1 hh with rfl | hh
    ·show l.length≤9223372036854775807
     have:=H40.out
     omega
    ·cases hh) (by decide) hp (by decide) hx (by decide) (by decide) (fun x hx=>by
    unfold lampX at hx
    rcases List.mem_cons.1 hx with rfl | hx
    ·decide
    ·cases hx) ha (by decide) (fun a h=>by
    unfold oneA at h
    rcases List.mem_cons.1 h with rfl | h
    ·exact HS5.out.2
    ·cases h) ht hr)
  rw [fe2,← fv] at HF2;generalize frV [] (lampPL G gc) lampX (oneA SV)=F at *;have HFl:=Lib.hid fl;clear fe1 fe2 fv fl HFr;have HPw:=Lib.hid (fun (w':World) (h:Below W.heap.size W w')=>show InPs w' (some ⟨P1,0,none⟩) 1 (lampPL G gc)∧shX.In w' (some ⟨P2,0,none⟩) 1 lampX∧Tab w'∧Rng w' from ⟨q01w (HG2.out.below h HG2.out.1) (HP12.out.below h HP12.out.1),In_of_cells (S:=shX) (l:=lampX) (HP22.out.below h HP22.out.1),HT.out.below (HFin.out _ h),HR.out.below (HFin.out _ h)⟩)
  go_wp2_with fail;rw [← HW.out];have hX:=q18 (Below.refl W.heap.size W) 1;obtain ⟨c0,c1,c2,c3,c4⟩:=HK.out _ hX
  go_region_held3 (fun w'=>w'.cell? ⟨w8.heap.size,0,none⟩=some (.slice none 0 0)∧w'.cell? ⟨w8.heap.size,1,none⟩=some (.slice (some ⟨P1,0,none⟩) 1 1)∧w'.cell? ⟨w8.heap.size,2,none⟩=some (.slice (some ⟨P2,0,none⟩) 1 1)∧w'.cell? ⟨w8.heap.size+1,0,none⟩=some (.int .i64 1)∧w'.cell? ⟨w8.heap.size+1,1,none⟩=some (.int .i64 3)) (first | exact HK.out _ hX | exact HK.out _ (hX.alloc hX.size _)) (first | (go_at_call 45;refine (HWh.out _).mono ?_;rintro e wa ⟨rfl,hb⟩;have hX':=hX.trans (hb.mono hX.size);clear hX hb;have hX:=hX';clear hX';obtain ⟨c0,c1,c2,c3,c4⟩:=HK.out _ hX) | (go_at_call 15;refine (HF1.out _ (HPw.out _ (hX.alloc hX.size _)).1 (HPw.out _ (hX.alloc hX.size _)).2.1 _ _ (In_of_cells (S:=shAm) (l:=oneA SV) (Cells.fresh _ [.int .i64 1,.int .i64 3,.string SV] _)) (HPw.out _ (hX.alloc hX.size _)).2.2.1 (HPw.out _ (hX.alloc hX.size _)).2.2.2).mono ?_;rintro e w9 ⟨r,rfl,B2,e2,rfl,ho,hb⟩;have HO9:=Lib.hid (qfy ho (hX.alloc hX.size _).size);have hX9:=(hX.alloc hX.size _).trans (hb.mono (hX.alloc hX.size _).size);have HX9:=Lib.hid hX9;clear hX ho hb;have hX:=hX9;clear hX9))
  clear c0 c1 c2 c3 c4;obtain ⟨⟨d1,d2,d3⟩,⟨d4,d5,d6⟩,⟨d7,d8,d9⟩,d10,d11⟩:=HD.out;have hz9:=hX.size;have q0:=HK0.out.below hX HK0.out.1;have q1:=HG2.out.below hX HG2.out.1;have q2:=HP12.out.below hX HP12.out.1;have q3:=HP22.out.below hX HP22.out.1;have q4:=HK1.out.below hX HK1.out.1;obtain ⟨V2,hV2⟩:∃ V2,V2=(w9.setCell ⟨w8.heap.size,0,none⟩ (.slice (some ⟨w9.heap.size,0,none⟩) 1 1)).setCell ⟨G,4,none⟩ (.int .i64 1):=⟨_,rfl⟩;have vs2:V2.heap.size=w9.heap.size:=by rw [hV2];simp
  obtain ⟨V3,hV3⟩:∃ V3,V3=V2.alloc (.cells #[.slice (some ⟨b,o,none⟩) l.length d] 99):=⟨_,rfl⟩;have v3:Below V2.heap.size V2 V3:=by rw [hV3];exact (Below.refl _ _).alloc (Nat.le_refl _) _
  have vs3:V3.heap.size=w9.heap.size+1:=by rw [hV3];simp [vs2]
  have s0:Cells V3 w8.heap.size [.slice (some ⟨w9.heap.size,0,none⟩) 1 1,.slice (some ⟨P1,0,none⟩) 1 1,.slice (some ⟨P2,0,none⟩) 1 1]:=by
   have h:Cells V2 w8.heap.size [.slice (some ⟨w9.heap.size,0,none⟩) 1 1,.slice (some ⟨P1,0,none⟩) 1 1,.slice (some ⟨P2,0,none⟩) 1 1]:=by
    rw [hV2];exact (q0.set 0 (.slice (some ⟨w9.heap.size,0,none⟩) 1 1) (by simp)).far 4 _ (by omega)
   exact h.below v3 h.1
  have s1:Cells V3 G (shF.vs lampG):=by
   have h:Cells V2 G (shF.vs lampG):=by
    rw [hV2,← q01r];exact (q1.far 0 _ (by omega)).set 4 _ (by show 4<30;decide)
   exact h.below v3 h.1
  have s2:Cells V3 P1 [.string lampN,.int .i64 6,.int .i64 0,.slice (some ⟨G,0,none⟩) 3 gc]:=by
   have h:Cells V2 P1 [.string lampN,.int .i64 6,.int .i64 0,.slice (some ⟨G,0,none⟩) 3 gc]:=by
    rw [hV2];exact (q2.far 0 _ (by omega)).far 4 _ (by omega)
   exact h.below v3 h.1
  have s3:Cells V3 P2 (shX.vs lampX):=by
   have h:Cells V2 P2 (shX.vs lampX):=by
    rw [hV2];exact (q3.far 0 _ (by omega)).far 4 _ (by omega)
   exact h.below v3 h.1
  have s4:Cells V3 (w8.heap.size+1) [.int .i64 1,.int .i64 3]:=by
   have h:Cells V2 (w8.heap.size+1) [.int .i64 1,.int .i64 3]:=by
    rw [hV2];exact (q4.far 0 _ (by omega)).far 4 _ (by omega)
   exact h.below v3 h.1
  have s5:Cells V3 w9.heap.size [.slice (some ⟨b,o,none⟩) l.length d]:=by
   rw [hV3,← vs2];exact Cells.fresh V2 [.slice (some ⟨b,o,none⟩) l.length d] _
  have hbV:Below w.heap.size w V3:=by
   have h9:=HFin.out _ hX;have h2:Below w.heap.size w V2:=by
    rw [hV2];exact (h9.setCell (p:=⟨w8.heap.size,0,none⟩) (by show w.heap.size≤w8.heap.size;omega) _).setCell (p:=⟨G,4,none⟩) (by show w.heap.size≤G;omega) _
   exact h2.trans (v3.mono h2.size)
  have hIF:shFm.In V3 B2 F.length F:=by
   have h2:=q024 HO9.out w8.heap.size 0 (.slice (some ⟨w9.heap.size,0,none⟩) 1 1) (by omega)
   have h3:=q024 h2 G 4 (.int .i64 1) (by omega)
   rw [← hV2] at h3;exact (Sh.In.of_own h3 rfl).below v3
  have k0:=q0.at_ (j:=0) rfl
  have k1:=q0.at_ (j:=1) rfl
  have kf0:=q0.fr (j:=0) rfl;have k2:=q2.at_ (j:=3) rfl
  have k3:=q1.at_ (j:=4) (u:=.int .i64 0) rfl
  have kf3:=q1.fr (j:=4) (u:=.int .i64 0) rfl;have m0:w8.heap.size<w9.heap.size:=by omega
  have m1:¬ w8.heap.size=w9.heap.size:=by omega
  have m2:P1<w9.heap.size:=by omega
  have m3:¬ P1=w9.heap.size:=by omega
  have m4:¬ P1=w8.heap.size:=by omega
  have m5:G<w9.heap.size:=by omega
  have m6:¬ G=w9.heap.size:=by omega
  have m7:¬ G=w8.heap.size:=by omega
  have m8:¬ w8.heap.size=P1:=by omega
  have m9:¬ w8.heap.size=G:=by omega
  have HV:=Lib.hid (show V3=((w9.setCell ⟨w8.heap.size,0,none⟩ (.slice (some ⟨w9.heap.size,0,none⟩) 1 1)).setCell ⟨G,4,none⟩ (.int .i64 1)).alloc (.cells #[.slice (some ⟨b,o,none⟩) l.length d] 99) by rw [hV3,hV2])
  have HS0:=Lib.hid s0;have HS1:=Lib.hid s1;have HS2:=Lib.hid s2;have HS3:=Lib.hid s3;have HS4:=Lib.hid s4;have HS5':=Lib.hid s5;have HBV:=Lib.hid hbV;have HIF:=Lib.hid hIF;have HZ:=Lib.hid (And.intro hz9 vs3);clear hV2 hV3 v3 vs2 vs3 s0 s1 s2 s3 s4 s5 hbV hIF q0 q1 q2 q3 q4 d1 d2 d3 d4 d5 d6 d7 d8 d9 d10 d11 hz9 hX HD
  go_upto_region 17 with fail
  rw [← HV.out];have HKv:=Lib.hid (fun (w':World) (h:Below V3.heap.size V3 w')=>show w'.cell? ⟨w8.heap.size,0,none⟩=some (.slice (some ⟨w9.heap.size,0,none⟩) 1 1)∧w'.cell? ⟨w8.heap.size,1,none⟩=some (.slice (some ⟨P1,0,none⟩) 1 1)∧w'.cell? ⟨w8.heap.size,2,none⟩=some (.slice (some ⟨P2,0,none⟩) 1 1)∧w'.cell? ⟨w8.heap.size+1,0,none⟩=some (.int .i64 1)∧w'.cell? ⟨w8.heap.size+1,1,none⟩=some (.int .i64 3) from
   have q:=HS0.out.below h HS0.out.1;have q':=HS4.out.below h HS4.out.1
   ⟨q.at_ (j:=0) rfl,q.at_ (j:=1) rfl,q.at_ (j:=2) rfl,q'.at_ (j:=0) rfl,q'.at_ (j:=1) rfl⟩)
  have HPv:=Lib.hid (fun (w':World) (h:Below V3.heap.size V3 w')=>show InPs w' (some ⟨P1,0,none⟩) 1 (lampPC G gc)∧shX.In w' (some ⟨P2,0,none⟩) 1 lampX∧Tab w'∧Rng w'∧InN w' (some ⟨w9.heap.size,0,none⟩) 1 [⟨some ⟨b,o,none⟩,l.length,d⟩] [l] from
   have hw':=HBV.out.trans (h.mono HBV.out.size)
   ⟨q01z (HS1.out.below h HS1.out.1) (HS2.out.below h HS2.out.1),In_of_cells (S:=shX) (l:=lampX) (HS3.out.below h HS3.out.1),HT.out.below hw',HR.out.below hw',In_of_cells (S:=shH) (l:=[⟨some ⟨b,o,none⟩,l.length,d⟩]) (HS5'.out.below h HS5'.out.1),rfl,fun i h1 h2=>by
    have:i<1:=h1
    obtain rfl:i=0:=by omega
    exact HL.out.below hw'⟩)
  clear k0 k1 kf0 k2 k3 kf3 m0 m1 m2 m3 m4 m5 m6 m7 m8 m9;obtain ⟨c0,c1,c2,c3,c4⟩:=HKv.out _ (Below.refl V3.heap.size V3);have hX:=(Below.refl V3.heap.size V3).alloc (Nat.le_refl _) (.cells #[.int .i64 1,.int .i64 3,.string SL] 46);have HX:=Lib.hid hX;clear hX;go_wp2_with fail;refine (HF2.out _ _ (HPv.out _ HX.out).2.2.2.2 (HPv.out _ HX.out).1 (HPv.out _ HX.out).2.1 _ _ (In_of_cells (S:=shAm) (l:=oneA SL) (Cells.fresh _ [.int .i64 1,.int .i64 3,.string SL] _)) (HPv.out _ HX.out).2.2.1 (HPv.out _ HX.out).2.2.2.1).mono ?_;rintro e wz ⟨r,rfl,B3,e3,rfl,ho,hb⟩;have HI3:=Lib.hid (Sh.In.of_own ho rfl);have HXz:=Lib.hid (HX.out.trans (hb.mono HX.out.size));clear ho hb c0 c1 c2 c3 c4;have HSm:=Lib.hid (fun w h1 h2=>qto B2 B3 F.length F.length e2 e3 F F w h1 h2 (by have:=HFl.out;omega) (by have:=HFl.out;omega))
  rw [decide_eq_true (rfl:F=F)] at HSm;go_wp2_with fail;refine (HSm.out _ (HIF.out.below HXz.out) HI3.out).mono ?_;rintro e wy ⟨rfl,hb⟩;have hz:=HBV.out.trans ((HXz.out.trans (hb.mono HXz.out.size)).mono HBV.out.size);clear hb;go_wp2_with fail;go_ret;exact ⟨rfl,hz⟩
theorem q038 (w:World) (A:Option Addr) (n c:Nat) (l:List PT) (hl:shP.In w A n l) (_:∀ g ∈ l,goodP g) (_:n≤maxLen) (hby:n*16≤reachBytes) (v:Int) (hv:(Lit.int .u16 v).wf=true) (hL:Laid w) :
  Calls prog 10 #[.slice A n c,.int .u16 v] w fun e w'=>e=.returned (.bool true)∧Below w.heap.size w w':=by
 have:=u16_bd hv
 exact q028 w A n c l hl (by unfold reachBytes at hby;omega) v this.1 this.2 hL.1 hL.2
end

end Go.Proofs.YtbfikenbgfnfiaaGreatDoor
