/- UniverseInside: for every input the law returns true, and its arguments read behind the call as they read before. The package variables that the row lists hold what the program's text lays. -/
import Derived.Test.YtbfikenbgfnfiaaGreatDoorMUniI
import Derived.Test.YtbfikenbgfnfiaaGreatDoorMUniJ
import Derived.Test.YtbfikenbgfnfiaaGreatDoorMUniG
import Derived.Test.YtbfikenbgfnfiaaGreatDoorMUniK
import Derived.Test.YtbfikenbgfnfiaaGreatDoorMLaw
import Derived.Test.YtbfikenbgfnfiaaGreatDoorHUniverseInside
import Derived.Test.YtbfikenbgfnfiaaGreatDoorCards
import Derived.Test.YtbfikenbgfnfiaaGreatDoorTie
import Derived.SevenTiedAt
import Derived.SizedLaws
import Derived.Test.YtbfikenbgfnfiaaGreatDoorMUp
namespace Go.Proofs.YtbfikenbgfnfiaaGreatDoor
set_option maxHeartbeats 32000000
open _root_.Go.Proofs.Tryz
open Go.RowKit
set_option maxRecDepth 100000 in
theorem q01h (P:List PC) (y:Fx) (Pg Pf Pa:Nat) (A1:Option Addr) (n1 d1:Nat) (xu xa:Int) (w:World) (hPg:w.cell? ⟨Pg,1,none⟩=some (.slice A1 n1 d1)) (hPf:w.cell? ⟨Pf,0,none⟩=some (.int .i64 xu)) (hPa:w.cell? ⟨Pa,0,none⟩=some (.int .i64 xa))
  (bg:Pg<w.heap.size) (bf:Pf<w.heap.size) (ba:Pa<w.heap.size) (hp:shPr.In w A1 n1 P) (hn1:n1≤9223372036854775806) (hy:FxOK P y) :
  Calls Tryz.prog 29 #[y.val,.pointer (some ⟨Pg,0,none⟩),.pointer (some ⟨Pf,0,none⟩),.pointer (some ⟨Pa,0,none⟩)] w fun e w'=>e=.returned (.bool (usesB P y xu xa))∧Below w.heap.size w w':=by
 have HUs:=Lib.hid (fun w h=>qo2 A1 n1 d1 P y xu xa w h hn1 hy)
 generalize usesB P y xu xa=us at *;obtain ⟨ch,pt,pr,un,ad,ph,cb⟩:=y;replace HUs:=Lib.hid (show ∀ w',shPr.In w' A1 n1 P→Calls Tryz.prog 24 #[.slice A1 n1 d1,.agg #[.int .i64 ch,.int .i64 pt,.string pr,.int .i64 un,.int .i64 ad,.int .i64 ph,.string cb],.int .i64 xu,.int .i64 xa] w' fun e w''=>e=.returned (.bool us)∧Below w'.heap.size w' w'' from HUs.out)
 show Calls Tryz.prog 29 #[.agg #[.int .i64 ch,.int .i64 pt,.string pr,.int .i64 un,.int .i64 ad,.int .i64 ph,.string cb],.pointer (some ⟨Pg,0,none⟩),.pointer (some ⟨Pf,0,none⟩),.pointer (some ⟨Pa,0,none⟩)] w fun e w'=>e=.returned (.bool us)∧Below w.heap.size w w'
 obtain ⟨W,hW⟩:∃ W,W=(w.alloc (.cells #[.int .i64 ch,.int .i64 pt,.string pr,.int .i64 un,.int .i64 ad,.int .i64 ph,.string cb] 55)):=⟨_,rfl⟩;obtain ⟨hB0,hK0⟩:=box1 #[.int .i64 ch,.int .i64 pt,.string pr,.int .i64 un,.int .i64 ad,.int .i64 ph,.string cb] 55 w W hW;have hK:∀ w',Below W.heap.size W w'→w'.cell? ⟨w.heap.size,0,none⟩=some (.int .i64 ch)∧w'.cell? ⟨w.heap.size,1,none⟩=some (.int .i64 pt)∧w'.cell? ⟨w.heap.size,2,none⟩=some (.string pr)∧w'.cell? ⟨w.heap.size,3,none⟩=some (.int .i64 un)∧w'.cell? ⟨w.heap.size,4,none⟩=some (.int .i64 ad)∧w'.cell? ⟨w.heap.size,5,none⟩=some (.int .i64 ph)∧w'.cell? ⟨w.heap.size,6,none⟩=some (.string cb):=fun w' h=>⟨(hK0 w' h) 0 _ rfl,(hK0 w' h) 1 _ rfl,(hK0 w' h) 2 _ rfl,(hK0 w' h) 3 _ rfl,(hK0 w' h) 4 _ rfl,(hK0 w' h) 5 _ rfl,(hK0 w' h) 6 _ rfl⟩
 have HK:=Lib.hid hK;have HW:=Lib.hid hW;have HB0:=Lib.hid hB0;have hB:=Below.refl W.heap.size W;obtain ⟨c0,c1,c2,c3,c4,c5,c6⟩:=hK W hB;clear hW hB0 hK hK0;have HP:=Lib.hid (hp.below HB0.out);have m1:¬ Pg=w.heap.size:=by omega
 have m2:¬ Pf=w.heap.size:=by omega
 have m3:¬ Pa=w.heap.size:=by omega
 clear hp hn1 hy c0 c1 c2 c3 c4 c5 c6
 go_enter Tryz.func29,Tryz.ntmps29
 go_wp2_with fail;rw [← HW.out];refine uq_ (HUs.out _ (HP.out.below hB)) hB ?_;clear hB;intro wk hB;go_wp2_with fail;go_ret;exact ⟨rfl,HB0.out.trans (hB.mono HB0.out.size)⟩
def atOf (v:Value) (w:World):Nat:=match v with
 | .pointer (some p)=>(match w.cell? p with | some (.int _ a)=>a.toNat | _=>0)
 | _=>0
theorem q01g {w:World} {p:Nat} {a:Int} (h:Cells w p [.int .i64 a]):atOf (.pointer (some ⟨p,0,none⟩)) w=a.toNat:=by
 show (match w.cell? ⟨p,0,none⟩ with | some (.int _ a)=>a.toNat | _=>0)=a.toNat
 rw [h.at_ (j:=0) rfl]
set_option maxRecDepth 100000 in
theorem q01i (w:World) (g:RG) (H:List Hd) (L:List (List PT)) (PL:List (PC × List Fea)) (X:List Fx) (hg:g.Is w H L PL X) (A:Option Addr) (n c:Nat) (l:List Am) (hl:shAm.In w A n l) (hn:n≤9223372036854775806) (ht:Tab w) (hr:Rng w) :
  Calls Tryz.prog 6 #[.agg g.cs.toArray,.slice A n c] w fun e w'=>e=.returned (.bool true)∧Below w.heap.size w w':=by
 obtain ⟨A0,n0,d0,A1,n1,d1,A2,n2,d2⟩:=g;obtain ⟨rfl,_⟩:=id hl;show Calls Tryz.prog 6 #[.agg #[.slice A0 n0 d0,.slice A1 n1 d1,.slice A2 n2 d2],.slice A l.length c] w fun e w'=>e=.returned (.bool true)∧Below w.heap.size w w'
 have hn1l:n1=PL.length:=by have:=hg.2.1.1.1.1;simpa using this
 obtain rfl:n2=X.length:=hg.2.2.1.1;have HRt1:=Lib.hid (fun w h1 h2=>qch A0 n0 d0 A1 n1 d1 A2 X.length d2 H L PL X A l.length c l w h1 h2 hn)
 have HAw:=Lib.hid (fun w ht hr=>qtq w ht hr)
 have HG:=Lib.hid hg;have HL:=Lib.hid hl;have HT:=Lib.hid ht;have HRg:=Lib.hid hr;have HN1:=Lib.hid hn1l;have HN:=Lib.hid hn;clear hg hl hn ht hr hn1l;obtain ⟨W,hW⟩:∃ W,W=(w.alloc (.cells #[.slice A0 n0 d0,.slice A1 n1 d1,.slice A2 X.length d2] 26)):=⟨_,rfl⟩;obtain ⟨hB0,hK0⟩:=box1 #[.slice A0 n0 d0,.slice A1 n1 d1,.slice A2 X.length d2] 26 w W hW;have hK:∀ w',Below W.heap.size W w'→w'.cell? ⟨w.heap.size,0,none⟩=some (.slice A0 n0 d0)∧w'.cell? ⟨w.heap.size,1,none⟩=some (.slice A1 n1 d1)∧w'.cell? ⟨w.heap.size,2,none⟩=some (.slice A2 X.length d2):=fun w' h=>⟨(hK0 w' h) 0 _ rfl,(hK0 w' h) 1 _ rfl,(hK0 w' h) 2 _ rfl⟩
 have HK:=Lib.hid hK;have HW:=Lib.hid hW;have HB0:=Lib.hid hB0;have hB:=Below.refl W.heap.size W;obtain ⟨c0,c1,c2⟩:=hK W hB;clear hW hB0 hK hK0;replace HG:=Lib.hid (HG.out.below HB0.out);replace HL:=Lib.hid (HL.out.below HB0.out);replace HT:=Lib.hid (HT.out.below HB0.out);replace HRg:=Lib.hid (HRg.out.below HB0.out);have HFin:=Lib.hid (fun (w':World) (h:Below W.heap.size W w')=>HB0.out.trans (h.mono HB0.out.size))
 cases hr1:rgtB L PL X l with
 | false =>
  rw [hr1] at HRt1;clear hr1
  go_enter Tryz.func6,Tryz.ntmps6
  go_wp2_with fail;rw [← HW.out];refine uq_ (HRt1.out _ (HG.out.below hB) (HL.out.below hB)) hB ?_;clear hB;intro wk hB;obtain ⟨c0,c1,c2⟩:=HK.out _ hB;go_wp2_with fail;refine uq_ (HAw.out _ (HT.out.below hB) (HRg.out.below hB)) hB ?_;clear hB;intro wk hB;go_wp2_with fail;go_ret;exact ⟨rfl,HB0.out.trans (hB.mono HB0.out.size)⟩
 | true =>
  rw [hr1] at HRt1;obtain ⟨q1,q2,q3,q4⟩:=rgt_of hr1;have hlen:=q7o q2;have hl120:∀ a ∈ l,a.lev.size≤120:=fun a h=>Nat.le_trans (hlen.2 a h) (by decide)
  have HF1:=Lib.hid (fun (w:World) (h:RG.Is w ⟨A0,n0,d0,A1,n1,d1,A2,X.length,d2⟩ H L PL X) (h4:shAm.In w A l.length l) ht hr=>qtn A0 n0 d0 H L A1 n1 d1 PL A2 X.length d2 X A l.length c l w h.1.1 h.1.2.1 h.1.2.2 (h.2.1.1.few q1) (by have h9:=(q7x q1).1;have h8:=HN1.out;omega) h.2.2.1 h.2.2.2.1.1 h.2.2.2.1.2 h.2.2.2.2 h4 HN.out hl120 ht hr)
  obtain ⟨fe1,fv1,fr1,fl1⟩:=q00r q3 q4 (l:=l);have hrt:=qmd fr1 fl1;have hsa:∀ x ∈ frV L PL X l,x.sl.size≤9223372036854775807:=fun x hx=>by have:=(fr1.2 x hx).2.2;omega
  have hins:∀ x ∈ X,¬ plI (frV L PL X l) x.un<0∧∀ f ∈ featV PL x.pr,f.lo≤shV (pgOf (frV L PL X l) x.un) x.ad f∧shV (pgOf (frV L PL X l) x.un) x.ad f≤f.hi:=fun x hx=>by
   rw [fv1];exact q00y q3 q4 hl120 hx
  have HSlot:=Lib.hid (fun (x:Fm) (hx:x ∈ frV L PL X l) (a:Int) (h1:1≤a) (h2:a≤512)=>show slE (frV L PL X l) x.un a=0∧(X.any (fun y=>usesB (PL.map Prod.fst) y x.un a)=false→slV (frV L PL X l) x.un a=0) from by
   rw [fv1] at hx ⊢;exact q010 q3 hx h1 h2)
  have HO:=Lib.hid (fun (B:Option Addr) (e:Nat) (w:World) (h:RG.Is w ⟨A0,n0,d0,A1,n1,d1,A2,X.length,d2⟩ H L PL X) (h4:shFm.In w B (frV L PL X l).length (frV L PL X l))=>q01b A0 n0 d0 H L A1 n1 d1 PL A2 X.length d2 X B (frV L PL X l).length e (frV L PL X l) w h.1.1 h.1.2.1 (h.2.1.1.few q1) (by have h9:=(q7x q1).1;have h8:=HN1.out;omega) h.2.2.1 h.2.2.2.1.1 h.2.2.2.1.2 h.2.2.2.2 h4 (by omega) hsa q3 hrt hins)
  have HRi:=Lib.hid (fun (B:Option Addr) (e:Nat) w h=>qyl B (frV L PL X l).length e (frV L PL X l) w h (by omega) hsa)
  rw [hrt] at HRi;have HSl:=Lib.hid (fun (B:Option Addr) (e:Nat) (u a:Int) w h=>qtp B (frV L PL X l).length e (frV L PL X l) u a w h (by omega) hsa)
  rw [fe1] at HF1;have HFx:=Lib.hid (qu8 q3).2.2.1;have hl8:=Lib.hid fl1;have hn1b:n1≤9223372036854775806:=by have h9:=(q7x q1).1;have h8:=HN1.out;omega
  have HN1b:=Lib.hid hn1b;generalize frV L PL X l=F at *;clear hr1 q1 q2 q3 q4 hlen hl120 fe1 fv1 fr1 fl1 hrt hsa hins hn1b
  go_enter Tryz.func6,Tryz.ntmps6
  go_wp2_with fail;rw [← HW.out];refine uq_ (HRt1.out _ (HG.out.below hB) (HL.out.below hB)) hB ?_;clear hB;intro wk hB;obtain ⟨c0,c1,c2⟩:=HK.out _ hB;go_wp2_with fail;refine (HF1.out _ (HG.out.below hB) (HL.out.below hB) (HT.out.below hB) (HRg.out.below hB)).mono ?_;rintro e w5 ⟨r,rfl,B1,e1,rfl,ho,hb⟩;have HI1:=Lib.hid (Sh.In.of_own ho rfl);replace hB:=hB.trans (hb.mono hB.size);clear ho hb;obtain ⟨c0,c1,c2⟩:=HK.out _ hB;go_wp2_with fail;refine (HO.out _ _ _ (HG.out.below hB) HI1.out).mono ?_;rintro e w6 ⟨rfl,hb⟩;have HI2:=Lib.hid (HI1.out.below hb);replace hB:=hB.trans (hb.mono hB.size);clear hb;go_wp2_with fail;refine (HRi.out _ _ _ HI2.out).mono ?_;rintro e w7 ⟨rfl,hb⟩;have HI3:=Lib.hid (HI2.out.below hb);replace hB:=hB.trans (hb.mono hB.size);have HB7:=Lib.hid hB;clear hb hB HF1 HO HRi HRt1 HL c0 c1 c2;go_wp2_with fail
  go_loopw [50] (fun iv wr=>∃ i:Nat,i≤F.length∧iv=.int .i64 i∧Below w7.heap.size w7 wr) (fun iv _=>F.length-(intOf iv).toNat)
  case atStart=>exact ⟨0,Nat.zero_le _,rfl,Below.refl _ _⟩
  case round =>
   obtain ⟨i,hi,rfl,hR⟩:=hrel
   rename World=>V3
   have HR3:=Lib.hid hR;have HB3:=Lib.hid (HB7.out.trans (hR.mono HB7.out.size));clear hR
   by_cases hlt:i<F.length
   case neg =>
    obtain rfl:i=F.length:=by omega
    go_wp2_with fail;refine (HAw.out _ (HT.out.below HB3.out) (HRg.out.below HB3.out)).mono ?_;rintro e wz ⟨rfl,hb⟩;have hz:=HFin.out _ (HB3.out.trans (hb.mono HB3.out.size));clear hb;go_wp2_with fail;go_ret;exact ⟨rfl,hz⟩
   case pos =>
    obtain ⟨b,o,rfl,hbl,hcell⟩:=fm_at HI3.out (by omega)
    obtain ⟨k0,k1⟩:=hcell i hlt;have p0:=(HR3.out.cell (p:=⟨b,o+i*2,none⟩) hbl).trans k0;have p1:=(HR3.out.cell (p:=⟨b,o+i*2+1,none⟩) hbl).trans k1;have hbw:b<V3.heap.size:=Nat.lt_of_lt_of_le hbl HR3.out.size;have i0:(0:Int)≤(i:Int):=by omega
    have i1:(i:Int)<(F.length:Int):=by omega
    have w0:IntKind.i64.wrap ((i:Int)+1)=(i:Int)+1:=IntWalk.i64_in _ (by have:=hl8.out;omega)
    have HSx:=Lib.hid (HSlot.out F[i] (List.getElem_mem hlt));clear hcell k0 k1;generalize F[i]=x at *;obtain ⟨xu,xs⟩:=x;dsimp only at p0 p1 HSx;obtain ⟨W2,hW2⟩:∃ W2,W2=(V3.alloc (.cells #[.int .i64 xu,.string xs] 66)).alloc (.cells #[.int .i64 1] 3):=⟨_,rfl⟩;have hb1:Below V3.heap.size V3 (V3.alloc (.cells #[.int .i64 xu,.string xs] 66)):=(Below.refl _ _).alloc (Nat.le_refl _) _;have hb2:Below (V3.heap.size+1) (V3.alloc (.cells #[.int .i64 xu,.string xs] 66)) W2:=by rw [hW2];exact (Below.refl _ _).alloc (by simp) _
    have hX2:Cells W2 V3.heap.size [.int .i64 xu,.string xs]:=(Cells.fresh V3 [.int .i64 xu,.string xs] 66).below (by simpa using hb2) (by simp)
    have hA2:Cells W2 (V3.heap.size+1) [.int .i64 1]:=by
     have:=Cells.fresh (V3.alloc (.cells #[.int .i64 xu,.string xs] 66)) [.int .i64 1] 3
     rw [hW2]
     simpa using this
    have hb3:Below V3.heap.size V3 W2:=hb1.trans (hb2.mono (by omega))
    have HX2:=Lib.hid hX2;have HB23:=Lib.hid hb3;have HA2:=Lib.hid hA2;have HR2:=Lib.hid (HR3.out.trans (hb3.mono HR3.out.size));have HB2:=Lib.hid (HB3.out.trans (hb3.mono HB3.out.size));have HW2:=Lib.hid hW2;have HV3:=Lib.hid (show W.heap.size≤V3.heap.size from HB3.out.size)
    have m1:w.heap.size<V3.heap.size:=Nat.lt_of_lt_of_le (by rw [HW.out];simp) HB3.out.size
    have m2:¬ w.heap.size=V3.heap.size:=by omega
    have HM:=Lib.hid m1;clear hW2 hb1 hb2 hb3 hX2 hA2;go_wp2_with fail;rw [← HW2.out];clear p0 p1
    go_loopw [11] (fun iv wr=>∃ (a:Int) (p:Nat),iv=.pointer (some ⟨p,0,none⟩)∧1≤a∧a≤513∧V3.heap.size<p∧Cells wr p [.int .i64 a]∧Cells wr V3.heap.size [.int .i64 xu,.string xs]∧Below V3.heap.size V3 wr) (fun iv wr=>513-atOf iv wr)
    case atStart=>exact ⟨1,V3.heap.size+1,rfl,by omega,by omega,Nat.lt_succ_self _,HA2.out,HX2.out,HB23.out⟩
    case round =>
     obtain ⟨a,p,rfl,ha1,ha2,hpV,hA,hX,hbV⟩:=hrel;have HA:=Lib.hid hA;have HX:=Lib.hid hX;have HbV:=Lib.hid hbV;have HBr:=Lib.hid (HB3.out.trans (hbV.mono HB3.out.size));have HRr:=Lib.hid (HR3.out.trans (hbV.mono HR3.out.size));have HpV:=Lib.hid hpV;have z0:=hA.at_ (j:=0) rfl
     obtain ⟨c0,c1,c2⟩:=HK.out _ HBr.out;clear hA hX hbV hpV
     by_cases ha:a≤512
     case neg =>
      clear c0 c1 c2;go_wp2_with fail
      go_roundw
      case rel=>exact ⟨i+1,hlt,by go_num,HRr.out⟩
      case measure=>simp [intOf];omega
     case pos =>
      obtain ⟨hs0,hs1⟩:=HSx.out a ha1 ha;have hct:=q3u 29 #[.pointer (some ⟨w.heap.size,0,none⟩),.pointer (some ⟨V3.heap.size,0,none⟩),.pointer (some ⟨p,0,none⟩)] (fun y=>usesB (PL.map Prod.fst) y xu a) A2 X.length d2 X wr (enters_of Tryz.func29 (by kernel_rfl) rfl) (HG.out.below HBr.out).2.2.1 (by have:=HG.out.2.2.2.1;dsimp only at this;omega) (fun q hq w' h=>by
       have hB':=HBr.out.trans (h.mono HBr.out.size);obtain ⟨e0,e1,e2⟩:=HK.out _ hB';have hx2:=HX.out.below h HX.out.1;have ha2:=HA.out.below h HA.out.1;exact q01h (PL.map Prod.fst) X[q] w.heap.size V3.heap.size p A1 n1 d1 xu a w' e1 (hx2.at_ (j:=0) rfl) (ha2.at_ (j:=0) rfl) (Nat.lt_trans HM.out hx2.1) hx2.1 ha2.1 (HG.out.below hB').2.1.1.1 HN1b.out (HFx.out q hq))
      have HSr:=Lib.hid (fun w h=>HSl.out (some ⟨b,o,none⟩) e1 xu a w h)
      rw [hs0] at HSr;have w1:IntKind.i64.wrap (a+1)=a+1:=IntWalk.i64_in _ (by omega)
      have HAb:=Lib.hid (And.intro ha1 ha)
      cases hus:X.any (fun y=>usesB (PL.map Prod.fst) y xu a) with
      | true =>
       rw [hus] at hct;generalize slV F xu a=sv at *;have HCt:=Lib.hid hct;clear hct hs0 hs1 hus;go_wp2_with fail;refine HCt.out.mono ?_;rintro e w8 ⟨rfl,hb⟩;have HX8:=Lib.hid (HX.out.below hb HX.out.1);have HA8:=Lib.hid (HA.out.below hb HA.out.1);have H8:=Lib.hid (HbV.out.trans (hb.mono HbV.out.size));have HR8:=Lib.hid (HRr.out.trans (hb.mono HRr.out.size));have x0:=HX8.out.at_ (j:=0) rfl
       replace z0:=HA8.out.at_ (j:=0) rfl
       clear hb c0 c1 c2;go_wp2_with fail;refine (HSr.out _ (HI3.out.below HR8.out)).mono ?_;rintro e w9 ⟨rfl,hb⟩;have HX9:=Lib.hid (HX8.out.below hb HX8.out.1);have HA9:=Lib.hid (HA8.out.below hb HA8.out.1);have H9:=Lib.hid (H8.out.trans (hb.mono H8.out.size));replace z0:=HA9.out.at_ (j:=0) rfl
       have m3:p<w9.heap.size:=HA9.out.1;have m4:¬ p=w9.heap.size:=by omega
       clear hb x0;go_wp2_with fail
       go_roundw
       case rel=>exact ⟨a+1,w9.heap.size,rfl,by omega,by have:=HAb.out.2;omega,HX9.out.1,Cells.fresh w9 [.int .i64 (a+1)] _,HX9.out.below ((Below.refl _ w9).alloc (Nat.le_refl _) _) HX9.out.1,H9.out.alloc H9.out.size _⟩
       case measure =>
        rw [q01g (Cells.fresh w9 [.int .i64 (a+1)] _),q01g HA.out]
        have:=HAb.out
        omega
      | false =>
       rw [hus] at hct;rw [hs1 hus] at HSr;have HCt:=Lib.hid hct;clear hct hs0 hs1 hus;go_wp2_with fail;refine HCt.out.mono ?_;rintro e w8 ⟨rfl,hb⟩;have HX8:=Lib.hid (HX.out.below hb HX.out.1);have HA8:=Lib.hid (HA.out.below hb HA.out.1);have H8:=Lib.hid (HbV.out.trans (hb.mono HbV.out.size));have HR8:=Lib.hid (HRr.out.trans (hb.mono HRr.out.size));have x0:=HX8.out.at_ (j:=0) rfl
       replace z0:=HA8.out.at_ (j:=0) rfl
       clear hb c0 c1 c2;go_wp2_with fail;refine (HSr.out _ (HI3.out.below HR8.out)).mono ?_;rintro e w9 ⟨rfl,hb⟩;have HX9:=Lib.hid (HX8.out.below hb HX8.out.1);have HA9:=Lib.hid (HA8.out.below hb HA8.out.1);have H9:=Lib.hid (H8.out.trans (hb.mono H8.out.size));replace z0:=HA9.out.at_ (j:=0) rfl
       have m3:p<w9.heap.size:=HA9.out.1;have m4:¬ p=w9.heap.size:=by omega
       clear hb x0;go_wp2_with fail
       go_roundw
       case rel=>exact ⟨a+1,w9.heap.size,rfl,by omega,by have:=HAb.out.2;omega,HX9.out.1,Cells.fresh w9 [.int .i64 (a+1)] _,HX9.out.below ((Below.refl _ w9).alloc (Nat.le_refl _) _) HX9.out.1,H9.out.alloc H9.out.size _⟩
       case measure =>
        rw [q01g (Cells.fresh w9 [.int .i64 (a+1)] _),q01g HA.out]
        have:=HAb.out
        omega
theorem q01j (w:World) (g:RG) (hg:g.good w) (A:Option Addr) (n c:Nat) (l:List Am) (hl:shAm.In w A n l) (_:∀ g ∈ l,g.good) (_:n≤maxLen) (hby:n*32≤reachBytes) (hL:Laid w) :
  Calls Tryz.prog 6 #[.agg g.cs.toArray,.slice A n c] w fun e w'=>e=.returned (.bool true)∧Below w.heap.size w w':=by
 obtain ⟨H,L,PL,X,hg⟩:=hg;exact q01i w g H L PL X hg A n c l hl (by unfold reachBytes at hby;omega) hL.1 hL.2
end Go.Proofs.YtbfikenbgfnfiaaGreatDoor

namespace Go.Proofs.YtbfikenbgfnfiaaGreatDoor.universeInsideP
set_option maxHeartbeats 32000000
open _root_.Go.Proofs.Tryz
open Go.ChangeShapes Go.ChangeMaps Go.WideShapes Go.ChangeAt Go.RowKit
set_option maxRecDepth 100000 in
theorem lifted (os:Os) (started:os.Started) (H:Type) (enc:TypeId × Value→H) :
  ReturnsInHanded {} Tryz.checked os 6 .any (fun w args=>(Rows.universeInsideSpec.pre enc Tryz.prog Tryz.f6 [] false w args∧laidMetH Tryz.prog Rows.universeInsideRow.laid w)∧sizedMet enc Tryz.prog Tryz.f6 (OpenSpec.ofChange Rows.universeInsideSpec) false w args)
   (Rows.universeInsideSpec.post enc Tryz.prog Tryz.f6 false true false false):=by
 refine returnsInHanded_of_change_and (C:=Tryz.checked) (X:=fun w _=>laidMetH Tryz.prog Rows.universeInsideRow.laid w) (fun _ _ _ hh h=>h.of_heap hh) own_ started (by kernel_rfl) Tryz.func6
  (ChangeSpec.witness_at (enc:=enc) (C:=Tryz.checked) (os:=os) (X:=fun w _=>laidMetH Tryz.prog Rows.universeInsideRow.laid w) false (qcj os) #[.agg #[.slice none 0 0,.slice none 0 0,.slice none 0 0],.slice none 0 0] 8 rfl (by kernel_rfl) (by kernel_rfl) (by kernel_rfl) (by kernel_rfl) (by kernel_rfl) (qck os _)) ?_
 intro W base args ds gs before hval0 hW _ hWt hL _;have hval:∀ (j:Nat) t v,Tryz.f6.params[j]? = some t→args[j]? = some v→Value.okWide Tryz.prog W .any base t v:=hval0;have hW':=hW;obtain ⟨p,q,hA0,hV,rfl,hfz,hnd⟩:=hW;have hA:DataW.TrodAll enc Tryz.prog W 0 (fun _=>true) true Tryz.f6.params.toList args.toList ds p:=hA0
 rw [Tryz.params6] at hA hval hWt;obtain ⟨v0,vs0,d0,ds0,p0,q0,hargs,rfl,rfl,h0,r0⟩:=trodAll_cons hA;obtain ⟨v1,vs1,d1,ds1,p1,q1,rfl,rfl,rfl,h1,r1⟩:=trodAll_cons r0;obtain ⟨rfl,rfl,rfl⟩:=trodAll_nil r1;obtain rfl:args=#[v0,v1]:=by cases args;simp_all
 obtain ⟨rfl,rfl⟩:=trodVars_none hV;have lt0:∀ x ∈ p0,x.block<W.heap.size:=by obtain ⟨m,hm⟩:=h0;exact DataW.trod_lt m _ _ _ hm
 obtain ⟨cs0,fuel0,y0,rfl,hf0⟩:=q0a Tryz.underlying26 (hval 0 26 v0 rfl rfl) h0;obtain ⟨g0,rfl,hg0⟩:=qmc hf0;have lt1:∀ x ∈ p1,x.block<W.heap.size:=by obtain ⟨m,hm⟩:=h1;exact DataW.trod_lt m _ _ _ hm
 obtain ⟨A1,n1,c1,rfl⟩:=okWide_slice Tryz.underlying27 (hval 1 27 v1 rfl rfl);have k1:=h1;obtain ⟨fuel1,hf1⟩:=k1;obtain ⟨l1,hl1,hg1,hn1,hx1⟩:=qfc shAm Tryz.underlying27 (by kernel_rfl:Tryz.prog.cellsOf 46=shAm.z) (by decide) ⟨0,0,⟨#[]⟩⟩ _ (fun _ _ _ h=>q0i h) hf1
 have hby1:n1*32≤reachBytes:=by
  rcases hx1 with h | ⟨el,sp,e1,e2⟩
  ·rw [h];decide
  ·have hs:(el.length+sp.length)*Tryz.prog.bytesOf 46≤reachBytes:=sized_slice hWt (j:=1) (t:=27) (e:=46) (elems:=el) (spare:=sp) rfl (congrArg some e1) Tryz.underlying27
   rw [show Tryz.prog.bytesOf 46=32 by kernel_rfl] at hs
   rw [e2];exact Nat.le_trans (Nat.mul_le_mul_right _ (Nat.le_add_right _ _)) hs
 clear hA0 hval0 hWt;simp only [List.append_nil] at hW';refine (q01j W g0 hg0 A1 n1 c1 l1 hl1 hg1 hn1 hby1 (qcl hL)).mono fun e W' ⟨he,bel⟩=>?_
 subst he;exact ⟨_,rfl,_,_,_,[],_,[],hW',trodAll_mk1 (shut_bool Tryz.underlying4 _),(trodAll_cons_mk (Below.trod qci (by kernel_rfl) (of_decide_eq_true (by kernel_rfl)) h0 bel lt0) (trodAll_cons_mk (Below.trod qci (by kernel_rfl) (of_decide_eq_true (by kernel_rfl)) h1 bel lt1) trodAll_mk0)),rfl,bel.frame _,fun h=>by cases h⟩
theorem over:Rows.universeInsideRow.holds Tryz.pinned (OpenSpec.ofChange Rows.universeInsideSpec) :=
 OpenClaim.holds_of_wide 6 Tryz.f6 rfl rfl rfl rfl rfl rfl rfl ⟨rfl,rfl,rfl,rfl,rfl⟩ rfl rfl rfl rfl rfl (by kernel_rfl) Tryz.func6 qw4
  (of_decide_eq_true (by kernel_rfl)) (by unfold Func.isWrapper;rw [if_neg (of_decide_eq_false (by kernel_rfl))];exact ⟨rfl,rfl⟩)
  (fun os started H enc _=>lifted os started H enc)
theorem qew:∀ t ∈ Tryz.f6.params.toList,Tryz.prog.wantsStandIn t=false:=by
 rw [Tryz.params6];intro t ht;simp only [List.mem_cons,List.not_mem_nil,or_false] at ht
 rcases ht with rfl | rfl <;> kernel_rfl
theorem limb1:OpenClaim.wfByText (OpenSpec.ofChange Rows.universeInsideSpec) Rows.universeInsideRow=true:=by kernel_rfl
theorem limb2 : Tryz.pinned.checked.prog.mainIs = some ((true, "3c05e574faa5d82a202099566cff212858ae0478407842340229b14b3e1e5c6e").1, (true, "3c05e574faa5d82a202099566cff212858ae0478407842340229b14b3e1e5c6e").2.toList) := by kernel_rfl
theorem limb3:true=Tryz.pinned.checked.prog.looks []:=by kernel_rfl
theorem limb4:false=Rows.universeInsideRow.goesBy Tryz.pinned.checked.prog:=by kernel_rfl
theorem limb5 : Tryz.prog.funcNamed "luminaire/luminairelaw13.UniverseInside" = some 6 := by kernel_rfl
theorem proved:Rows.UniverseInsideCardSaid :=
 Claim7.holds_tied_plain_at .later [] [.data, .data, .data, .data, .sentinel, .sentinel, .pinned] true (true, "3c05e574faa5d82a202099566cff212858ae0478407842340229b14b3e1e5c6e") true
  over (fun _ h=>by cases h) limb1 (fun _ h=>by cases h) universeInside_row_tie rfl ⟨rfl,rfl⟩ limb2 rfl
  (fun f fn hf hfn=>by
   obtain rfl:f=6:=Option.some.inj (limb5.symm.trans hf) |>.symm
   obtain rfl:fn=Tryz.f6:=(Option.some.inj (Tryz.func6.symm.trans hfn)).symm;exact ⟨limb3,fun j t ht=>qew t (Array.mem_toList_iff.2 (Array.mem_of_getElem? ht))⟩)
  limb4
#print axioms proved
end Go.Proofs.YtbfikenbgfnfiaaGreatDoor.universeInsideP
