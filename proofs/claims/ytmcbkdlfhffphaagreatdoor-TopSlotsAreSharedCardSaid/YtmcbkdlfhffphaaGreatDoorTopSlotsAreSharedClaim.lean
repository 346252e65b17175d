/- TopSlotsAreShared: for every input the law returns true, and its arguments read behind the call as they read before. The package variables that the row lists hold what the program's text lays. -/
import Derived.Test.YtmcbkdlfhffphaaGreatDoorTTopS
import Derived.Test.YtmcbkdlfhffphaaGreatDoorMUniI
import Derived.Test.YtmcbkdlfhffphaaGreatDoorMUniG
import Derived.Test.YtmcbkdlfhffphaaGreatDoorRUniM
import Derived.Test.YtmcbkdlfhffphaaGreatDoorTTopA
import Derived.Test.YtmcbkdlfhffphaaGreatDoorMLaw
import Derived.Test.YtmcbkdlfhffphaaGreatDoorHTopSlotsAreShared
import Derived.Test.YtmcbkdlfhffphaaGreatDoorCards
import Derived.Test.YtmcbkdlfhffphaaGreatDoorTie
import Derived.SevenTiedAt
import Derived.SizedLaws
import Derived.Test.YtmcbkdlfhffphaaGreatDoorMUp
namespace Go.Proofs.YtmcbkdlfhffphaaGreatDoor
set_option maxHeartbeats 32000000
set_option maxRecDepth 100000
open _root_.Go.Proofs.Tryz
open Go.RowKit
theorem q0a6 {w:World} {A:Option Addr} {n:Nat} {P:List PC} (h:shPr.In w A n P) {s:ByteArray} {p:PC} (hp:pcF P s=some p):∃ k b o:Nat,A=some ⟨b,o,none⟩∧pcI P s=k∧k<n∧b<w.heap.size∧w.cell? ⟨b,o+k*4+1,none⟩=some (.int .i64 p.ft):=by
 have hnn:¬ pcI P s<0:=fun h=>by rw [qgv.1 h] at hp;cases hp
 have hat:=pcI_at hnn;rw [hp] at hat;have hge:=pcI_ge P s;have hlt:=pcI_lt P s;obtain ⟨k,hk⟩:∃ k:Nat,pcI P s=k:=⟨(pcI P s).toNat,by omega⟩
 have hkl:k<P.length:=by omega
 rw [hk,show ((k:Int).toNat)=k by omega,qa1 hkl] at hat
 injection hat with hat
 have hn:=h.1;obtain ⟨b,o,rfl,hb,hc⟩:=pc_at h (by omega)
 have:=(hc k hkl).2.1
 rw [← hat] at this;exact ⟨k,b,o,rfl,hk,by omega,hb,this⟩
theorem q0bf (w:World) (g:RG) (H:List Hd) (L:List (List PT)) (PL:List (PC × List Fea)) (X:List Fx) (hg:g.Is w H L PL X) (num adr:Int) (hnum0:0≤num) (hnum1:num≤65535) (hadr0:0≤adr) (hadr1:adr≤65535) (ht:Tab w) (hr:Rng w) :
  Calls Tryz.prog 3 #[.agg g.cs.toArray,.int .u16 num,.int .u16 adr] w fun e w'=>e=.returned (.bool true)∧Below w.heap.size w w':=by
 obtain ⟨A0,n0,d0,A1,n1,d1,A2,n2,d2⟩:=g;show Calls Tryz.prog 3 #[.agg #[.slice A0 n0 d0,.slice A1 n1 d1,.slice A2 n2 d2],.int .u16 num,.int .u16 adr] w fun e w'=>e=.returned (.bool true)∧Below w.heap.size w w'
 have hn1l:n1=PL.length:=by have:=hg.2.1.1.1.1;simpa using this
 obtain rfl:n2=X.length:=hg.2.2.1.1;have HFr:=hj_ (fun w (h:RG.Is w ⟨A0,n0,d0,A1,n1,d1,A2,X.length,d2⟩ H L PL X)=>qm7 A0 n0 d0 H L A1 n1 d1 PL A2 X.length d2 w h.1.1 h.1.2.2 h.2.1.1 (Nat.le_trans h.2.1.2.2.1 h.2.1.2.2.2))
 have HLamp:=hj_ (fun w ht hr=>q029 w ht hr)
 have HG:=hj_ hg;have HT:=hj_ ht;have HRg:=hj_ hr;have HN1:=hj_ hn1l;have HNum:=hj_ (And.intro hnum0 (And.intro hnum1 (And.intro hadr0 hadr1)));clear hg ht hr hn1l hnum0 hnum1 hadr0 hadr1;obtain ⟨W,hW⟩:∃ W,W=(w.alloc (.cells #[.slice A0 n0 d0,.slice A1 n1 d1,.slice A2 X.length d2] 26)):=⟨_,rfl⟩;obtain ⟨hB0,hK0⟩:=box1 #[.slice A0 n0 d0,.slice A1 n1 d1,.slice A2 X.length d2] 26 w W hW;have hK:∀ w',Below W.heap.size W w'→w'.cell? ⟨w.heap.size,0,none⟩=some (.slice A0 n0 d0)∧w'.cell? ⟨w.heap.size,1,none⟩=some (.slice A1 n1 d1)∧w'.cell? ⟨w.heap.size,2,none⟩=some (.slice A2 X.length d2):=fun w' h=>⟨(hK0 w' h) 0 _ rfl,(hK0 w' h) 1 _ rfl,(hK0 w' h) 2 _ rfl⟩
 have HK:=hj_ hK;have HW:=hj_ hW;have HB0:=hj_ hB0;have hB:=Below.refl W.heap.size W;obtain ⟨c0,c1,c2⟩:=hK W hB;clear hW hB0 hK hK0;replace HG:=hj_ (HG.out.below HB0.out);replace HT:=hj_ (HT.out.below HB0.out);replace HRg:=hj_ (HRg.out.below HB0.out);have HFin:=hj_ (fun (w':World) (h:Below W.heap.size W w')=>ht_ HB0.out h)
 go_enter Tryz.func3,Tryz.ntmps3
 go_wp2_with fail;rw [← HW.out];refine uq_ (HLamp.out _ (HT.out.below hB) (HRg.out.below hB)) hB ?_;clear hB;intro wk hB;obtain ⟨c0,c1,c2⟩:=HK.out _ hB;go_wp2_with fail;obtain ⟨V,hV⟩:∃ V,V=wk.alloc (.cells #[.slice A0 n0 d0,.slice A1 n1 d1,.slice A2 X.length d2] 29):=⟨_,rfl⟩;have hR:Cells V wk.heap.size [.slice A0 n0 d0,.slice A1 n1 d1,.slice A2 X.length d2]:=by rw [hV];exact Cells.fresh wk [.slice A0 n0 d0,.slice A1 n1 d1,.slice A2 X.length d2] _
 have hVB:Below W.heap.size W V:=by rw [hV];exact hB.alloc hB.size _
 rw [← hV];clear hV hB c0 c1 c2;generalize wk.heap.size=Pr at *;have HVB:=hj_ hVB;have HR3:=hj_ hR;have HWs:=hj_ (show w.heap.size<V.heap.size by
  have h1:=hVB.size;have h2:w.heap.size<W.heap.size:=by rw [HW.out];simp
  omega)
 have HKg:=hj_ (fun w' (h:Below V.heap.size V w')=>HK.out w' (ht_ HVB.out h))
 have HK2:=hj_ (fun w' (h:Below V.heap.size V w')=>And.intro (HK.out w' (ht_ HVB.out h)) (And.intro ((HR3.out.below h HR3.out.1).at_ (j:=0) rfl) (And.intro ((HR3.out.below h HR3.out.1).at_ (j:=1) rfl) ((HR3.out.below h HR3.out.1).at_ (j:=2) rfl))))
 have HV:=hj_ (fun w' (h:Below V.heap.size V w')=>HFin.out _ (ht_ HVB.out h))
 replace HG:=hj_ (HG.out.below hVB);replace HT:=hj_ (HT.out.below hVB);replace HRg:=hj_ (HRg.out.below hVB);obtain ⟨⟨c0,c1,c2⟩,c3,c4,c5⟩:=HK2.out _ (Below.refl V.heap.size V);clear hR hVB HFin HR3 HK HW HB0 HVB;refine (HFr.out _ HG.out).mono ?_;rintro e wk ⟨rfl,hB⟩
 cases hfr:fewRg L PL X.length with
 | false =>
  clear HFr;go_wp2_with fail;go_ret;exact ⟨rfl,HV.out _ hB⟩
 | true =>
  have hfw:=q7x hfr;have hn1:n1≤9223372036854775806:=by have h9:=hfw.1;have h8:=HN1.out;omega
  have hn2:X.length≤9223372036854775806:=by have h9:=hfw.2.1;omega
  have HRc:=hj_ (fun w (h:RG.Is w ⟨A0,n0,d0,A1,n1,d1,A2,X.length,d2⟩ H L PL X)=>ql9 A0 n0 d0 H L A1 n1 d1 PL A2 X.length d2 X w h.1.1 h.1.2.1 h.1.2.2 (h.2.1.1.few hfr) h.2.1.2.1 hn1 h.2.1.2.2.1 h.2.1.2.2.2 h.2.2.1 hn2 h.2.2.2.2)
  clear HFr hn2 hfw c0 c1 c2 c3 c4 c5;obtain ⟨⟨c0,c1,c2⟩,c3,c4,c5⟩:=HK2.out _ hB;go_wp2_with fail;refine uq_ (HRc.out _ (HG.out.below hB)) hB ?_;clear hB;intro wk hB
  by_cases hue:uniE L PL X=0
  case neg =>
   have g1:(uniE L PL X == 0)=false:=by simpa using hue
   go_wp2_with fail;go_ret;exact ⟨rfl,HV.out _ hB⟩
  case pos =>
   rw [hue];clear c0 c1 c2 c3 c4 c5 HRc;obtain ⟨⟨c0,c1,c2⟩,c3,c4,c5⟩:=HK2.out _ hB
   by_cases hx0:X.length=0
   case pos =>
    have g1:((X.length:Int) == 0)=true:=by rw [beq_iff_eq];omega
    go_wp2_with fail;go_ret;exact ⟨rfl,HV.out _ hB⟩
   case neg =>
    have g1:((X.length:Int) == 0)=false:=by rw [beq_eq_false_iff_ne];omega
    have hpat:=q060 hue;have hpt:=(q0a5.1 hpat).2.2;have hx64:=(q0a5.1 hpat).2.1;have hP:shPr.In V A1 n1 (PL.map Prod.fst):=HG.out.2.1.1.1;have hX:shX.In V A2 X.length X:=HG.out.2.2.1;have hnd:X.length≤d2:=HG.out.2.2.2.1.1;have hd2:d2≤9223372036854775807:=HG.out.2.2.2.1.2;have hcb:∀ x ∈ X,x.cb.size≤9223372036854775807:=HG.out.2.2.2.2;generalize PL.map Prod.fst=P at *;clear HG HT HRg HLamp HN1 HWs hfr hue;have HP:=hj_ hP;have HX:=hj_ hX;obtain ⟨U,hU⟩:∃ U:Int,1+num.tmod 8=U:=⟨_,rfl⟩;obtain ⟨a,ha⟩:∃ a:Nat,1+adr.tmod 512=a:=⟨(1+adr.tmod 512).toNat,by have:=Int.tmod_nonneg (a:=adr) (b:=512) HNum.out.2.2.1;omega⟩
    have hm0:=Int.tmod_nonneg (a:=num) (b:=8) HNum.out.1;have hm1:=Int.tmod_lt_of_pos num (show (0:Int)<8 by decide)
    have hq0:=Int.tmod_nonneg (a:=adr) (b:=512) HNum.out.2.2.1;have hq1:=Int.tmod_lt_of_pos adr (show (0:Int)<512 by decide)
    have r0:IntKind.i64.wrap num=num:=IntWalk.i64_in _ (by have:=HNum.out;omega)
    have r1:IntKind.i64.wrap adr=adr:=IntWalk.i64_in _ (by have:=HNum.out;omega)
    have r2:IntKind.i64.wrap (num.tmod 8)=num.tmod 8:=IntWalk.i64_in _ (by omega)
    have r3:IntKind.i64.wrap (adr.tmod 512)=adr.tmod 512:=IntWalk.i64_in _ (by omega)
    have r4:IntKind.i64.wrap (1+num.tmod 8)=U:=by rw [hU];exact IntWalk.i64_in _ (by omega)
    have r5:IntKind.i64.wrap (1+adr.tmod 512)=(a:Int):=by rw [ha];exact IntWalk.i64_in _ (by omega)
    have hUr:1≤U∧U≤8:=by omega
    have har:1≤a∧a≤512:=by omega
    have HAt:=hj_ (fun (w:World) h1 h2=>q0ac A2 X.length d2 A1 n1 d1 P X U a w h1 hnd hd2 h2 hn1 hcb hpat har)
    have HPf:=hj_ (fun (s:ByteArray) w' hl=>qna A1 n1 d1 P s w' hl hn1)
    have HPt:=hj_ hpt;have HPat:=hj_ hpat;have HX64:=hj_ (And.intro hx64 hx0);have HUA:=hj_ (And.intro hUr har);have HCb:=hj_ (And.intro hnd (And.intro hd2 hcb));have HN1:=hj_ hn1;have hrg:=qq1 P X U a X.length;have HSl:=hj_ (fun k (hk:k<X.length)=>q0aa (u:=U) (a:=(a:Int)) hpt hk)
    have hI:sloI P X U a=if 0<slotK P X U a X.length then slotK P X U a X.length-1 else 0:=rfl
    have hO:sloO P X U a=if 0<slotK P X U a X.length then a-(X.getD (slotK P X U a X.length-1).toNat fx0).ad else 0:=rfl
    have hBo:sloB P X U a=decide (0<slotK P X U a X.length):=rfl;have HRS:=hj_ hrg;clear hm0 hm1 hq0 hq1 hU ha hUr har hnd hd2 hcb hpat hpt hx64 hrg hx0;go_wp2_with fail;refine uq_ (HAt.out _ (HX.out.below hB) (HP.out.below hB)) hB ?_;clear hB c0 c1 c2 c3 c4 c5 r0 r1 r2 r3 r4 r5 g1 HAt;intro w3 hB;have HB3:=hj_ hB;clear hB
    by_cases hS:0<slotK P X U a X.length
    case pos =>
     rw [if_pos hS] at hI hO;rw [decide_eq_true hS] at hBo;obtain ⟨s,hs⟩:∃ s:Nat,slotK P X U a X.length=(s:Int)+1:=⟨(slotK P X U a X.length-1).toNat,by omega⟩
     have hsl0:s<X.length:=by have:=HRS.out.2;omega
     rw [show slotK P X U a X.length-1=(s:Int) by omega] at hI hO
     rw [Int.toNat_natCast] at hO;rw [hI,hBo];clear hI hBo hS;generalize sloO P X U a=OO at *;have HS:=hj_ hs;have HO:=hj_ hO;have s0:¬ (s:Int)<0:=by omega
     have s1:(s:Int)<(X.length:Int):=by omega
     have HS0:=hj_ hsl0;have s2:¬ X.length≤s:=by omega
     have s3:decide (X.length≤s)=false:=decide_eq_false s2;clear hs hO hsl0;obtain ⟨c0,c1,c2⟩:=HKg.out _ HB3.out;go_wp2_with fail;clear c0 c1 c2
     go_loopw [90] (fun iv wr=>∃ k:Nat,k≤X.length∧iv=.int .i64 k∧Below V.heap.size V wr) (fun iv _=>X.length-(intOf iv).toNat)
     case atStart=>exact ⟨0,Nat.zero_le _,rfl,HB3.out⟩
     case round =>
      obtain ⟨k,hk,rfl,hB⟩:=hrel;have HBr:=hj_ hB
      rename World=>V3
      by_cases hlt:k<X.length
      case neg =>
       have hkx:¬ (k:Int)<(X.length:Int):=by omega
       clear hB;clear hk hkx;have hs0:=HS0.out;obtain ⟨bx,ox,e0,hbx,hcell⟩:=fx_at HX.out (by have:=HS0.out;omega)
       have hk4:=hcell s HS0.out;have hus:usesB P X[s] U a=true:=by rw [HSl.out s HS0.out];exact decide_eq_true HS.out
       obtain ⟨hrn,hf1,hf2,pp,hpp⟩:=HPt.out.ok _ (List.getElem_mem HS0.out);obtain ⟨q,b1,o1,e1,hq,hqn,hb1l,hz⟩:=q0a6 HP.out hpp;have hfo:footV P X[s].pr=pp.ft:=by unfold footV;rw [hpp]
       have had:1≤X[s].ad∧X[s].ad≤512:=by
        unfold qkt at hrn;simp only [Bool.and_eq_true,decide_eq_true_eq] at hrn;exact hrn.1.2
       rw [hfo] at hf1 hf2;obtain ⟨z,hzz⟩:∃ z:Nat,pp.ft=(z:Int):=⟨pp.ft.toNat,by omega⟩
       have HZ1:=hj_ (show 1≤z from by omega)
       obtain ⟨an,han⟩:∃ an:Nat,X[s].ad=(an:Int):=⟨X[s].ad.toNat,by omega⟩
       have hmv:=fun (Fa:Nat) (h:freeA (fun b=>slotK P X U b X.length) z 513=some Fa)=>moved HPt.out HS0.out hus (by rw [hfo,hzz]) h
       have HMvd:=hj_ hmv;have HFr:=hj_ (fun (w:World) h1 h2=>q0ad A2 X.length d2 A1 n1 d1 P X U z w h1 HCb.out.1 HCb.out.2.1 h2 HN1.out HCb.out.2.2 HPat.out HUA.out.1 (by omega))
       have HMo:=hj_ (fun (Fa:Nat) (ch pt:Int) (pr:ByteArray) (un ad ph:Int) (cb:ByteArray) (hx:X[s]=⟨ch,pt,pr,un,ad,ph,cb⟩) (hE2:patE P (X.set s (X[s].to Fa))=0) (w:World) h1 h2=>q0ae A2 X.length d2 A1 n1 d1 P X s HS0.out ch pt pr un ad ph cb Fa hx w h1 HCb.out.1 HCb.out.2.1 h2 HN1.out HCb.out.2.2 HPat.out hE2)
       have HCx:=hj_ (HCb.out.2.2 X[s] (List.getElem_mem hs0));have HU2:=hj_ (fun (w:World) h1 h2=>q0af A2 X.length d2 A1 n1 d1 P X U w h1 HCb.out.1 HCb.out.2.1 h2 HN1.out HCb.out.2.2 HPat.out)
       have hlenP:=(q0a5.1 HPat.out).1;have HPlen:=hj_ hlenP;subst e0 e1;have kk:=fun (q:Nat)=>HBr.out.cell (p:=⟨bx,q,none⟩) hbx
       have hbw:bx<V3.heap.size:=Nat.lt_of_lt_of_le hbx HBr.out.size;have i0:(0:Int)≤(s:Int):=by omega
       have q0:(0:Int)≤(q:Int):=by omega
       have q1:(q:Int)<(n1:Int):=by omega
       have HPf2:=hj_ (fun w' hl=>HPf.out X[s].pr w' hl)
       rw [hq] at HPf2;rw [hzz] at hz hf2;have HZ:=hj_ (fun (w':World) (h:Below V.heap.size V w')=>(h.cell (p:=⟨b1,o1+q*4+1,none⟩) hb1l).trans hz)
       have HZr:=hj_ (And.intro had hf2);clear hcell hrn hpp hq hz hus hfo hb1l hbx hmv hf1 hlenP had;generalize hxs:X[s]=x at *;obtain ⟨ch,pt,pr,un,ad,ph,cb⟩:=x;dsimp only at han;subst han;obtain ⟨k0,k1,k2,k3,k4,k5,k6⟩:=hk4;have p0:=(kk _).trans k0;have p1:=(kk _).trans k1;have p2:=(kk _).trans k2;have p3:=(kk _).trans k3;have p4:=(kk _).trans k4;have p5:=(kk _).trans k5;have p6:=(kk _).trans k6;clear k0 k1 k2 k3 k4 k5 k6 kk hzz hf2;dsimp only at p0 p1 p2 p3 p4 p5 p6 HPf2;obtain ⟨fo,hfo⟩:∃ fo:Int,fo=(z:Int):=⟨_,rfl⟩;rw [← hfo] at HZ;have HFo:=hj_ hfo;clear hfo;have hxs':=hxs;have HXs:=hj_ hxs';clear hxs hxs';obtain ⟨W1,hW1⟩:∃ W1,W1=V3.alloc (.cells #[.int .i64 ch,.int .i64 pt,.string pr,.int .i64 un,.int .i64 (an:Int),.int .i64 ph,.string cb] 36):=⟨_,rfl⟩;have hb1:Below V3.heap.size V3 W1:=by rw [hW1];exact (br_).alloc (Nat.le_refl _) _
       have hX1:Cells W1 V3.heap.size [.int .i64 ch,.int .i64 pt,.string pr,.int .i64 un,.int .i64 (an:Int),.int .i64 ph,.string cb]:=by rw [hW1];exact Cells.fresh V3 [.int .i64 ch,.int .i64 pt,.string pr,.int .i64 un,.int .i64 (an:Int),.int .i64 ph,.string cb] _
       have HX1:=hj_ hX1;have HB1:=hj_ (ht_ HBr.out hb1);have HW1:=hj_ hW1;obtain ⟨c0,c1,c2⟩:=HKg.out _ HBr.out;clear hW1 hb1 hX1
       go_upto_region 21 with fail
       rw [← HW1.out];clear c0 c1 c2 p0 p1 p2 p3 p4 p5 p6;have hd:=q18 HB1.out 1;obtain ⟨-,c1,-⟩:=HKg.out _ hd;have x2:=(HX1.out.below (q18 (Below.refl W1.heap.size W1) 1) HX1.out.1).at_ (j:=2) rfl
       have z1:=HZ.out _ hd;go_wp2_with fail;refine wp_region_held_drew (S:=fun w'=>w'.cell? ⟨w.heap.size,1,none⟩=some (.slice (some ⟨b1,o1,none⟩) n1 d1)∧w'.cell? ⟨V3.heap.size,2,none⟩=some (.string pr)∧w'.cell? ⟨b1,o1+q*4+1,none⟩=some (.int .i64 fo)) (by kernel_rfl) (by first | exact ⟨c1,x2,z1⟩) (fun hHeld=>?_)
       refine wpAnyH_take (i:=0) (oi:=?_) (v:=?_) ?_ (by kernel_rfl) (by kernel_rfl) (by kernel_rfl) ?_ (Or.inl ⟨?_,?_⟩) (by assumption) ?_
       rotate_left 2
       ·(simp only [List.getElem?_toArray,List.getElem?_cons_zero];rfl)
       ·exact fun _ _ _ h=>h
       ·rfl
       ·(intro w hSw;(try dsimp only at hSw);go_simp;try with_reducible rfl)
       simp only [Act.put,List.setIfInBounds_toArray,List.set_cons_zero,List.set_cons_succ];refine wpAnyH_take (i:=1) (oi:=?_) (v:=?_) ?_ (by kernel_rfl) (by kernel_rfl) (by kernel_rfl) ?_ (Or.inl ⟨?_,?_⟩) (by assumption) ?_
       rotate_left 2
       ·(simp only [List.getElem?_toArray,List.getElem?_cons_succ,List.getElem?_cons_zero];rfl)
       ·exact fun _ _ _ h=>h
       ·rfl
       ·(intro w hSw;(try dsimp only at hSw);go_simp;try with_reducible rfl)
       simp only [Act.put,List.setIfInBounds_toArray,List.set_cons_zero,List.set_cons_succ];refine wpAnyH_take (i:=2) (oi:=?_) (v:=?_) ?_ (by kernel_rfl) (by kernel_rfl) (by kernel_rfl) ?_ (Or.inl ⟨?_,?_⟩) (by assumption) ?_
       rotate_left 2
       ·(simp only [List.getElem?_toArray,List.getElem?_cons_succ,List.getElem?_cons_zero];rfl)
       ·exact fun _ _ _ h=>h
       ·rfl
       ·(intro w hSw;(try dsimp only at hSw);go_simp;try with_reducible rfl)
       simp only [Act.put,List.setIfInBounds_toArray,List.set_cons_zero,List.set_cons_succ];refine wpAnyH_take (i:=3) (oi:=?_) (v:=?_) ?_ (by kernel_rfl) (by kernel_rfl) (by kernel_rfl) ?_ (Or.inl ⟨?_,?_⟩) (by assumption) ?_
       rotate_left 2
       ·(simp only [List.getElem?_toArray,List.getElem?_cons_succ,List.getElem?_cons_zero];rfl)
       ·exact fun _ _ _ h=>h
       ·rfl
       ·(intro w hSw;(try dsimp only at hSw);go_simp;try with_reducible rfl)
       simp only [Act.put,List.setIfInBounds_toArray,List.set_cons_zero,List.set_cons_succ];refine wpAnyH_take (i:=4) (oi:=?_) (v:=?_) ?_ (by kernel_rfl) (by kernel_rfl) (by kernel_rfl) ?_ (Or.inl ⟨?_,?_⟩) (by assumption) ?_
       rotate_left 2
       ·(simp only [List.getElem?_toArray,List.getElem?_cons_succ,List.getElem?_cons_zero];rfl)
       ·exact fun _ _ _ h=>h
       ·rfl
       ·(intro w hSw;(try dsimp only at hSw);go_simp;try with_reducible rfl)
       simp only [Act.put,List.setIfInBounds_toArray,List.set_cons_zero,List.set_cons_succ];refine wpAnyH_take (i:=5) (oi:=?_) (v:=?_) ?_ (by kernel_rfl) (by kernel_rfl) (by kernel_rfl) ?_ (Or.inl ⟨?_,?_⟩) (by assumption) ?_
       rotate_left 2
       ·(simp only [List.getElem?_toArray,List.getElem?_cons_succ,List.getElem?_cons_zero];rfl)
       ·exact fun _ _ _ h=>h
       ·rfl
       ·(intro w hSw;(try dsimp only at hSw);go_simp;try with_reducible rfl)
       simp only [Act.put,List.setIfInBounds_toArray,List.set_cons_zero,List.set_cons_succ];refine wpAnyH_ready (rs:=[6]) (by kernel_rfl) (by simp) ?_
       refine AllReadyH.cons rfl (fun K hK=>?_) AllReadyH.nil
       go_simp
       go_at_call 9;refine (HPf2.out _ (HP.out.below hd)).mono ?_;rintro e wk6 ⟨rfl,hb6⟩;have hk6:=ht_ hd hb6;obtain ⟨-,c1,-⟩:=HKg.out _ hk6;have x2:=(HX1.out.below ((q18 (br_) 1).trans (hb6.mono (q18 (Below.refl W1.heap.size W1) 1).size)) HX1.out.1).at_ (j:=2) rfl;have z1:=HZ.out _ hk6
       go_wp2_with fail;refine hK.out _ _ (by first | exact ⟨c1,x2,z1⟩) (fun hHeld=>?_)
       clear hK K
       try simp only [Act.put,List.setIfInBounds_toArray,List.set_cons_zero,List.set_cons_succ]
       refine wpAnyH_take (i:=7) (oi:=?_) (v:=?_) ?_ (by kernel_rfl) (by kernel_rfl) (by kernel_rfl) ?_ (Or.inl ⟨?_,?_⟩) (by assumption) ?_
       rotate_left 2
       ·(simp only [List.getElem?_toArray,List.getElem?_cons_succ,List.getElem?_cons_zero];rfl)
       ·exact fun _ _ _ h=>h
       ·rfl
       ·(intro w hSw;(try dsimp only at hSw);go_simp;try with_reducible rfl)
       simp only [Act.put,List.setIfInBounds_toArray,List.set_cons_zero,List.set_cons_succ];refine wpAnyH_take (i:=8) (oi:=?_) (v:=?_) ?_ (by kernel_rfl) (by kernel_rfl) (by kernel_rfl) ?_ (Or.inl ⟨?_,?_⟩) (by assumption) ?_
       rotate_left 2
       ·(simp only [List.getElem?_toArray,List.getElem?_cons_succ,List.getElem?_cons_zero];rfl)
       ·exact fun _ _ _ h=>h
       ·rfl
       ·(intro w hSw;(try dsimp only at hSw);go_simp;try with_reducible rfl)
       simp only [Act.put,List.setIfInBounds_toArray,List.set_cons_zero,List.set_cons_succ];refine wpAnyH_take (i:=9) (oi:=?_) (v:=?_) ?_ (by kernel_rfl) (by kernel_rfl) (by kernel_rfl) ?_ (Or.inl ⟨?_,?_⟩) (by assumption) ?_
       rotate_left 2
       ·(simp only [List.getElem?_toArray,List.getElem?_cons_succ,List.getElem?_cons_zero];rfl)
       ·exact fun _ _ _ h=>h
       ·rfl
       ·(intro w hSw;(try dsimp only at hSw);go_simp;try with_reducible rfl)
       simp only [Act.put,List.setIfInBounds_toArray,List.set_cons_zero,List.set_cons_succ];refine wpAnyH_take (i:=10) (oi:=?_) (v:=?_) ?_ (by kernel_rfl) (by kernel_rfl) (by kernel_rfl) ?_ (Or.inl ⟨?_,?_⟩) (by assumption) ?_
       rotate_left 2
       ·(simp only [List.getElem?_toArray,List.getElem?_cons_succ,List.getElem?_cons_zero];rfl)
       ·exact fun _ _ _ h=>h
       ·rfl
       ·(intro w hSw;(try dsimp only at hSw);go_simp;try with_reducible rfl)
       simp only [Act.put,List.setIfInBounds_toArray,List.set_cons_zero,List.set_cons_succ];refine wpAnyH_done (by kernel_rfl) ?_ _
       have hX6:=HX1.out.below ((q18 (br_) 1).trans (hb6.mono (q18 (Below.refl W1.heap.size W1) 1).size)) HX1.out.1;have HX6:=hj_ hX6;have HK6:=hj_ hk6;have hfo:=HFo.out;clear hd hb6 hk6 hX6 hHeld c1 x2 z1 HPf2 HZ HX1;subst hfo;obtain ⟨c0,c1,c2⟩:=HKg.out _ HK6.out;go_wp2_with fail;refine (HFr.out _ (HX.out.below HK6.out) (HP.out.below HK6.out)).mono ?_;rintro e w7 ⟨rfl,hb⟩;have HK7:=hj_ (ht_ HK6.out hb);have HX7:=hj_ (HX6.out.below hb HX6.out.1);clear hb c0 c1 c2 HFr HX6
       cases hFA:freeA (fun b:Nat=>slotK P X U b X.length) z 513 with
       | none =>
        have e1:freE (fun b:Nat=>slotK P X U b X.length) z=12:=by unfold freE;rw [hFA]
        rw [e1];go_wp2_with fail;go_ret;exact ⟨rfl,HV.out _ HK7.out⟩
       | some Fa =>
        have e1:freE (fun b:Nat=>slotK P X U b X.length) z=0:=by unfold freE;rw [hFA]
        have e2:freV (fun b:Nat=>slotK P X U b X.length) z=(Fa:Int):=by unfold freV;rw [hFA]
        rw [e1,e2];have hm:=HMvd.out Fa hFA;obtain ⟨m1,m2,m3,m4⟩:=hm;obtain ⟨f1,f2,-⟩:=q09w HZ1.out hFA;have hE2:patE P (X.set s ((⟨ch,pt,pr,un,(an:Int),ph,cb⟩:Fx).to Fa))=0:=q0a5.2 ⟨HPlen.out,by rw [List.length_set];exact HX64.out.1,m1⟩
        have hmo:=fun (w:World) h1 h2=>HMo.out Fa ch pt pr un (an:Int) ph cb rfl hE2 w h1 h2
        have hYl:(X.set s ((⟨ch,pt,pr,un,(an:Int),ph,cb⟩:Fx).to Fa)).length=X.length:=List.length_set;have hcbY:∀ y ∈ X.set s ((⟨ch,pt,pr,un,(an:Int),ph,cb⟩:Fx).to Fa),y.cb.size≤9223372036854775807:=fun y hy=>by
         rcases List.mem_or_eq_of_mem_set hy with h | rfl
         ·exact HCb.out.2.2 y h
         ·exact HCx.out
        generalize X.set s ((⟨ch,pt,pr,un,(an:Int),ph,cb⟩:Fx).to Fa)=Y at *;have har:1≤an∧an≤512:=by have:=HZr.out.1;omega
        have HMo2:=hj_ hmo;have HA1:=hj_ (fun (B c2:Nat) (h:X.length≤c2∧c2≤9223372036854775807) (w:World) h1 h2=>q0ac (some ⟨B,0,none⟩) X.length c2 (some ⟨b1,o1,none⟩) n1 d1 P Y U Fa w h1 h.1 h.2 h2 HN1.out hcbY hE2 ⟨f1,by have:=HZ1.out;omega⟩)
        have HA2:=hj_ (fun (B c2:Nat) (h:X.length≤c2∧c2≤9223372036854775807) (w:World) h1 h2=>q0ac (some ⟨B,0,none⟩) X.length c2 (some ⟨b1,o1,none⟩) n1 d1 P Y U an w h1 h.1 h.2 h2 HN1.out hcbY hE2 har)
        have HU1:=hj_ (fun (B c2:Nat) (h:X.length≤c2∧c2≤9223372036854775807) (w:World) h1 h2=>q0af (some ⟨B,0,none⟩) X.length c2 (some ⟨b1,o1,none⟩) n1 d1 P Y U w h1 h.1 h.2 h2 HN1.out hcbY hE2)
        have a1:sloI P Y U Fa=(s:Int):=by unfold sloI;rw [hYl,m2,if_pos (by omega)];omega
        have a2:sloB P Y U Fa=true:=by unfold sloB;rw [hYl,m2];exact decide_eq_true (by omega)
        have a3:sloB P Y U an=false:=by unfold sloB;rw [hYl,m3];rfl
        rw [a1,a2] at HA1;rw [a3] at HA2;rw [hYl,m4] at HU1;generalize sloO P Y U Fa=O1 at *;generalize sloI P Y U an=I2 at *;generalize sloO P Y U an=O2 at *;generalize usedN (fun b=>slotK P X U b X.length) 513=UN at *
        clear e1 e2 m1 m2 m3 m4 hE2 hmo hYl hcbY har a1 a2 a3 f1 f2 hFA HMvd HMo;obtain ⟨W8,hW8⟩:∃ W8,W8=w7.alloc (.cells #[.int .i64 ch,.int .i64 pt,.string pr,.int .i64 un,.int .i64 (an:Int),.int .i64 ph,.string cb] 36):=⟨_,rfl⟩;have hb8:Below w7.heap.size w7 W8:=by rw [hW8];exact (br_).alloc (Nat.le_refl _) _
        have hT8:Cells W8 w7.heap.size [.int .i64 ch,.int .i64 pt,.string pr,.int .i64 un,.int .i64 (an:Int),.int .i64 ph,.string cb]:=by rw [hW8];exact Cells.fresh w7 [.int .i64 ch,.int .i64 pt,.string pr,.int .i64 un,.int .i64 (an:Int),.int .i64 ph,.string cb] _
        have hx8:=HX7.out.below hb8 HX7.out.1;have hne:w7.heap.size≠V3.heap.size:=by have:=HX7.out.1;omega
        have y0:=HX7.out.at_ (j:=0) rfl
        have y1:=HX7.out.at_ (j:=1) rfl
        have y2:=HX7.out.at_ (j:=2) rfl
        have y3:=HX7.out.at_ (j:=3) rfl
        have y4:=HX7.out.at_ (j:=4) rfl
        have y5:=HX7.out.at_ (j:=5) rfl
        have y6:=HX7.out.at_ (j:=6) rfl
        have hB8:=ht_ HK7.out hb8;have HT8:=hj_ hT8;have HW8:=hj_ hW8;obtain ⟨W9,hW9⟩:∃ W9,W9=W8.setCell ⟨w7.heap.size,4,none⟩ (.int .i64 (Fa:Int)):=⟨_,rfl⟩;have HT9:=hj_ (show Cells W9 w7.heap.size [.int .i64 ch,.int .i64 pt,.string pr,.int .i64 un,.int .i64 (Fa:Int),.int .i64 ph,.string cb] by rw [hW9];exact hT8.set 4 (.int .i64 (Fa:Int)) (by show 4<7;decide))
        have HX9:=hj_ (show Cells W9 V3.heap.size [.int .i64 ch,.int .i64 pt,.string pr,.int .i64 un,.int .i64 (an:Int),.int .i64 ph,.string cb] by rw [hW9];exact hx8.far 4 _ hne)
        have HB9:=hj_ (show Below V.heap.size V W9 by rw [hW9];exact hB8.setCell (p:=⟨w7.heap.size,4,none⟩) HK7.out.size _)
        have HW9:=hj_ hW9;clear hW8 hb8 hT8 hx8 hB8 hW9 hne HX7
        go_upto_region 26 with fail
        rw [← HW8.out];clear y0 y1 y2 y3 y4 y5 y6;have y4:=HT8.out.at_ (j:=4) rfl
        have f4:=HT8.out.fr (j:=4) rfl
        go_upto_region 27 with fail
        rw [← HW9.out];clear y4 f4;have y0:=HX9.out.at_ (j:=0) rfl
        have y1:=HX9.out.at_ (j:=1) rfl
        have y2:=HX9.out.at_ (j:=2) rfl
        have y3:=HX9.out.at_ (j:=3) rfl
        have y4:=HX9.out.at_ (j:=4) rfl
        have y5:=HX9.out.at_ (j:=5) rfl
        have y6:=HX9.out.at_ (j:=6) rfl
        have z0:=HT9.out.at_ (j:=0) rfl
        have z1:=HT9.out.at_ (j:=1) rfl
        have z2:=HT9.out.at_ (j:=2) rfl
        have z3:=HT9.out.at_ (j:=3) rfl
        have z4:=HT9.out.at_ (j:=4) rfl
        have z5:=HT9.out.at_ (j:=5) rfl
        have z6:=HT9.out.at_ (j:=6) rfl
        obtain ⟨c0,c1,c2⟩:=HKg.out _ HB9.out;go_wp2_with fail;refine (HMo2.out _ (HX.out.below HB9.out) (HP.out.below HB9.out)).mono ?_;rintro e wa ⟨B,cm,rfl,hin,hcap,hb⟩;have HBa:=hj_ (ht_ HB9.out hb);have HXa:=hj_ (HX9.out.below hb HX9.out.1);have HIa:=hj_ hin;have HCa:=hj_ hcap;clear hb hin hcap y0 y1 y2 y3 y4 y5 y6 z0 z1 z2 z3 z4 z5 z6 c0 c1 c2 HT9 HX9;obtain ⟨c0,c1,c2⟩:=HKg.out _ HBa.out;go_wp2_with fail;refine (HA1.out B cm HCa.out _ HIa.out (HP.out.below HBa.out)).mono ?_;rintro e wb ⟨rfl,hb⟩;have HBb:=hj_ (ht_ HBa.out hb);have HXb:=hj_ (HXa.out.below hb HXa.out.1);have HIb:=hj_ (HIa.out.below hb);clear hb c0 c1 c2 HXa HIa HA1;obtain ⟨c0,c1,c2⟩:=HKg.out _ HBb.out;have y4:=HXb.out.at_ (j:=4) rfl
        go_wp2_with fail;refine (HA2.out B cm HCa.out _ HIb.out (HP.out.below HBb.out)).mono ?_;rintro e wc ⟨rfl,hb⟩;have HBc:=hj_ (ht_ HBb.out hb);have HIc:=hj_ (HIb.out.below hb);clear hb c0 c1 c2 y4 HXb HIb HA2;obtain ⟨c0,c1,c2⟩:=HKg.out _ HBc.out;go_wp2_with fail;refine (HU1.out B cm HCa.out _ HIc.out (HP.out.below HBc.out)).mono ?_;rintro e wd ⟨rfl,hb⟩;have HBd:=hj_ (ht_ HBc.out hb);clear hb c0 c1 c2 HIc HU1;obtain ⟨c0,c1,c2⟩:=HKg.out _ HBd.out;go_wp2_with fail;refine (HU2.out _ (HX.out.below HBd.out) (HP.out.below HBd.out)).mono ?_;rintro e we ⟨rfl,hb⟩;have HBe:=hj_ (ht_ HBd.out hb);clear hb c0 c1 c2 HU2;go_wp2_with fail;go_ret;exact ⟨by first | rfl | exact ret_b (by simp),HV.out _ HBe.out⟩
      case pos =>
       obtain ⟨bx,ox,e0,hbx,hcell⟩:=fx_at HX.out (by omega)
       have hk4:=hcell k hlt;have hsl:=HSl.out k hlt;obtain ⟨hrn,hf1,hf2,pp,hpp⟩:=HPt.out.ok _ (List.getElem_mem hlt);obtain ⟨q,b1,o1,e1,hq,hqn,hb1l,hz⟩:=q0a6 HP.out hpp;have hfo:footV P X[k].pr=pp.ft:=by unfold footV;rw [hpp]
       subst e0 e1;have kk:=fun (q:Nat)=>HBr.out.cell (p:=⟨bx,q,none⟩) hbx
       have hbw:bx<V3.heap.size:=Nat.lt_of_lt_of_le hbx HBr.out.size;have i0:(0:Int)≤(k:Int):=by omega
       have i1:(k:Int)<(X.length:Int):=by omega
       have q0:(0:Int)≤(q:Int):=by omega
       have q1:(q:Int)<(n1:Int):=by omega
       have w0:IntKind.i64.wrap ((k:Int)+1)=(k:Int)+1:=IntWalk.i64_in _ (by have:=HX64.out.1;omega)
       have HPf2:=hj_ (fun w' hl=>HPf.out X[k].pr w' hl)
       rw [hq] at HPf2;rw [hfo] at hf1 hf2;have HZ:=hj_ (fun (w':World) (h:Below V.heap.size V w')=>(h.cell (p:=⟨b1,o1+q*4+1,none⟩) hb1l).trans hz)
       have hus:usesB P X[k] U a=(decide (X[k].un=U) && decide (X[k].ad≤(a:Int)) && decide ((a:Int)<X[k].ad+pp.ft)):=by unfold usesB;rw [hfo]
       rw [hus] at hsl;have hof:(k:Int)=s→OO=(a:Int)-X[k].ad:=fun e=>by
        have e2:k=s:=by omega
        subst e2;have h9:=HO.out;rw [qa1 hlt] at h9;exact h9
       have HOf:=hj_ hof;clear hof;have had:1≤X[k].ad∧X[k].ad≤512:=by
        unfold qkt at hrn;simp only [Bool.and_eq_true,decide_eq_true_eq] at hrn;exact hrn.1.2
       have HLt:=hj_ hlt;clear hcell hrn hpp hq hz hus hfo hb1l hbx;generalize X[k]=x at *;generalize pp.ft=fo at *;obtain ⟨ch,pt,pr,un,ad,ph,cb⟩:=x;obtain ⟨k0,k1,k2,k3,k4,k5,k6⟩:=hk4;have p0:=(kk _).trans k0;have p1:=(kk _).trans k1;have p2:=(kk _).trans k2;have p3:=(kk _).trans k3;have p4:=(kk _).trans k4;have p5:=(kk _).trans k5;have p6:=(kk _).trans k6;clear k0 k1 k2 k3 k4 k5 k6 kk;dsimp only at p0 p1 p2 p3 p4 p5 p6 hf2 had hsl HPf2;have wF:IntKind.i64.wrap (ad+fo)=ad+fo:=IntWalk.i64_in _ (by omega)
       have HFo:=hj_ (And.intro hf1 (And.intro hf2 had));have HSlk:=hj_ hsl;clear hf1 hf2 had hsl;obtain ⟨W1,hW1⟩:∃ W1,W1=V3.alloc (.cells #[.int .i64 ch,.int .i64 pt,.string pr,.int .i64 un,.int .i64 ad,.int .i64 ph,.string cb] 36):=⟨_,rfl⟩;have hb1:Below V3.heap.size V3 W1:=by rw [hW1];exact (br_).alloc (Nat.le_refl _) _
       have hX1:Cells W1 V3.heap.size [.int .i64 ch,.int .i64 pt,.string pr,.int .i64 un,.int .i64 ad,.int .i64 ph,.string cb]:=by rw [hW1];exact Cells.fresh V3 [.int .i64 ch,.int .i64 pt,.string pr,.int .i64 un,.int .i64 ad,.int .i64 ph,.string cb] _
       have HX1:=hj_ hX1;have HB1:=hj_ (ht_ HBr.out hb1);have HW1:=hj_ hW1;obtain ⟨c0,c1,c2⟩:=HKg.out _ HBr.out;clear hW1 hb1 hX1 hB
       go_upto_region 13 with fail
       rw [← HW1.out];clear c0 c1 c2 p0 p1 p2 p3 p4 p5 p6 hlt;have hd:=q18 HB1.out 1;obtain ⟨-,c1,-⟩:=HKg.out _ hd;have x2:=(HX1.out.below (q18 (Below.refl W1.heap.size W1) 1) HX1.out.1).at_ (j:=2) rfl
       have z1:=HZ.out _ hd;go_wp2_with fail;refine wp_region_held_drew (S:=fun w'=>w'.cell? ⟨w.heap.size,1,none⟩=some (.slice (some ⟨b1,o1,none⟩) n1 d1)∧w'.cell? ⟨V3.heap.size,2,none⟩=some (.string pr)∧w'.cell? ⟨b1,o1+q*4+1,none⟩=some (.int .i64 fo)) (by kernel_rfl) (by first | exact ⟨c1,x2,z1⟩) (fun hHeld=>?_)
       refine wpAnyH_take (i:=0) (oi:=?_) (v:=?_) ?_ (by kernel_rfl) (by kernel_rfl) (by kernel_rfl) ?_ (Or.inl ⟨?_,?_⟩) (by assumption) ?_
       rotate_left 2
       ·(simp only [List.getElem?_toArray,List.getElem?_cons_zero];rfl)
       ·exact fun _ _ _ h=>h
       ·rfl
       ·(intro w hSw;(try dsimp only at hSw);go_simp;try with_reducible rfl)
       simp only [Act.put,List.setIfInBounds_toArray,List.set_cons_zero,List.set_cons_succ];refine wpAnyH_take (i:=1) (oi:=?_) (v:=?_) ?_ (by kernel_rfl) (by kernel_rfl) (by kernel_rfl) ?_ (Or.inl ⟨?_,?_⟩) (by assumption) ?_
       rotate_left 2
       ·(simp only [List.getElem?_toArray,List.getElem?_cons_succ,List.getElem?_cons_zero];rfl)
       ·exact fun _ _ _ h=>h
       ·rfl
       ·(intro w hSw;(try dsimp only at hSw);go_simp;try with_reducible rfl)
       simp only [Act.put,List.setIfInBounds_toArray,List.set_cons_zero,List.set_cons_succ];refine wpAnyH_take (i:=2) (oi:=?_) (v:=?_) ?_ (by kernel_rfl) (by kernel_rfl) (by kernel_rfl) ?_ (Or.inl ⟨?_,?_⟩) (by assumption) ?_
       rotate_left 2
       ·(simp only [List.getElem?_toArray,List.getElem?_cons_succ,List.getElem?_cons_zero];rfl)
       ·exact fun _ _ _ h=>h
       ·rfl
       ·(intro w hSw;(try dsimp only at hSw);go_simp;try with_reducible rfl)
       simp only [Act.put,List.setIfInBounds_toArray,List.set_cons_zero,List.set_cons_succ];refine wpAnyH_take (i:=3) (oi:=?_) (v:=?_) ?_ (by kernel_rfl) (by kernel_rfl) (by kernel_rfl) ?_ (Or.inl ⟨?_,?_⟩) (by assumption) ?_
       rotate_left 2
       ·(simp only [List.getElem?_toArray,List.getElem?_cons_succ,List.getElem?_cons_zero];rfl)
       ·exact fun _ _ _ h=>h
       ·rfl
       ·(intro w hSw;(try dsimp only at hSw);go_simp;try with_reducible rfl)
       simp only [Act.put,List.setIfInBounds_toArray,List.set_cons_zero,List.set_cons_succ];refine wpAnyH_take (i:=4) (oi:=?_) (v:=?_) ?_ (by kernel_rfl) (by kernel_rfl) (by kernel_rfl) ?_ (Or.inl ⟨?_,?_⟩) (by assumption) ?_
       rotate_left 2
       ·(simp only [List.getElem?_toArray,List.getElem?_cons_succ,List.getElem?_cons_zero];rfl)
       ·exact fun _ _ _ h=>h
       ·rfl
       ·(intro w hSw;(try dsimp only at hSw);go_simp;try with_reducible rfl)
       simp only [Act.put,List.setIfInBounds_toArray,List.set_cons_zero,List.set_cons_succ];refine wpAnyH_take (i:=5) (oi:=?_) (v:=?_) ?_ (by kernel_rfl) (by kernel_rfl) (by kernel_rfl) ?_ (Or.inl ⟨?_,?_⟩) (by assumption) ?_
       rotate_left 2
       ·(simp only [List.getElem?_toArray,List.getElem?_cons_succ,List.getElem?_cons_zero];rfl)
       ·exact fun _ _ _ h=>h
       ·rfl
       ·(intro w hSw;(try dsimp only at hSw);go_simp;try with_reducible rfl)
       simp only [Act.put,List.setIfInBounds_toArray,List.set_cons_zero,List.set_cons_succ];refine wpAnyH_ready (rs:=[6]) (by kernel_rfl) (by simp) ?_
       refine AllReadyH.cons rfl (fun K hK=>?_) AllReadyH.nil
       go_simp
       go_at_call 9;refine (HPf2.out _ (HP.out.below hd)).mono ?_;rintro e wk6 ⟨rfl,hb6⟩;have hk6:=ht_ hd hb6;obtain ⟨-,c1,-⟩:=HKg.out _ hk6;have x2:=(HX1.out.below ((q18 (br_) 1).trans (hb6.mono (q18 (Below.refl W1.heap.size W1) 1).size)) HX1.out.1).at_ (j:=2) rfl;have z1:=HZ.out _ hk6
       go_wp2_with fail;refine hK.out _ _ (by first | exact ⟨c1,x2,z1⟩) (fun hHeld=>?_)
       clear hK K
       try simp only [Act.put,List.setIfInBounds_toArray,List.set_cons_zero,List.set_cons_succ]
       refine wpAnyH_take (i:=7) (oi:=?_) (v:=?_) ?_ (by kernel_rfl) (by kernel_rfl) (by kernel_rfl) ?_ (Or.inl ⟨?_,?_⟩) (by assumption) ?_
       rotate_left 2
       ·(simp only [List.getElem?_toArray,List.getElem?_cons_succ,List.getElem?_cons_zero];rfl)
       ·exact fun _ _ _ h=>h
       ·rfl
       ·(intro w hSw;(try dsimp only at hSw);go_simp;try with_reducible rfl)
       simp only [Act.put,List.setIfInBounds_toArray,List.set_cons_zero,List.set_cons_succ];refine wpAnyH_take (i:=8) (oi:=?_) (v:=?_) ?_ (by kernel_rfl) (by kernel_rfl) (by kernel_rfl) ?_ (Or.inl ⟨?_,?_⟩) (by assumption) ?_
       rotate_left 2
       ·(simp only [List.getElem?_toArray,List.getElem?_cons_succ,List.getElem?_cons_zero];rfl)
       ·exact fun _ _ _ h=>h
       ·rfl
       ·(intro w hSw;(try dsimp only at hSw);go_simp;try with_reducible rfl)
       simp only [Act.put,List.setIfInBounds_toArray,List.set_cons_zero,List.set_cons_succ];refine wpAnyH_take (i:=9) (oi:=?_) (v:=?_) ?_ (by kernel_rfl) (by kernel_rfl) (by kernel_rfl) ?_ (Or.inl ⟨?_,?_⟩) (by assumption) ?_
       rotate_left 2
       ·(simp only [List.getElem?_toArray,List.getElem?_cons_succ,List.getElem?_cons_zero];rfl)
       ·exact fun _ _ _ h=>h
       ·rfl
       ·(intro w hSw;(try dsimp only at hSw);go_simp;try with_reducible rfl)
       simp only [Act.put,List.setIfInBounds_toArray,List.set_cons_zero,List.set_cons_succ];refine wpAnyH_take (i:=10) (oi:=?_) (v:=?_) ?_ (by kernel_rfl) (by kernel_rfl) (by kernel_rfl) ?_ (Or.inl ⟨?_,?_⟩) (by assumption) ?_
       rotate_left 2
       ·(simp only [List.getElem?_toArray,List.getElem?_cons_succ,List.getElem?_cons_zero];rfl)
       ·exact fun _ _ _ h=>h
       ·rfl
       ·(intro w hSw;(try dsimp only at hSw);go_simp;try with_reducible rfl)
       simp only [Act.put,List.setIfInBounds_toArray,List.set_cons_zero,List.set_cons_succ];refine wpAnyH_done (by kernel_rfl) ?_ _
       have hX6:=HX1.out.below ((q18 (br_) 1).trans (hb6.mono (q18 (Below.refl W1.heap.size W1) 1).size)) HX1.out.1;have x3:=hX6.at_ (j:=3) rfl
       have x4:=hX6.at_ (j:=4) rfl
       have HK6:=hj_ hk6;clear hd hb6 hk6 hX6 hHeld c1 x2 z1 HPf2 HZ;have hsl:=HSlk.out
       by_cases o1:un=U
       case neg =>
        have g1:(un == U)=false:=by simpa using o1
        have hs2:(slotK P X U a X.length=(k:Int)+1)=False:=by
         rw [decide_eq_false o1,Bool.false_and,Bool.false_and] at hsl;exact eq_false (of_decide_eq_false hsl.symm)
        have g5:((s:Int) == (k:Int))=false:=by
         rw [beq_eq_false_iff_ne];intro e;have e3:slotK P X U a X.length=(k:Int)+1:=by rw [HS.out,e]
         rw [hs2] at e3;exact e3
        clear hsl hs2;go_wp2_with fail
        go_roundw
        case rel=>exact ⟨k+1,HLt.out,by go_num,HK6.out⟩
        case measure=>simp [intOf];have:=HLt.out;omega
       case pos =>
        by_cases o2:ad≤(a:Int)
        case neg =>
         have hs2:(slotK P X U a X.length=(k:Int)+1)=False:=by
          rw [decide_eq_false o2,Bool.and_false,Bool.false_and] at hsl;exact eq_false (of_decide_eq_false hsl.symm)
         have g5:((s:Int) == (k:Int))=false:=by
          rw [beq_eq_false_iff_ne];intro e;have e3:slotK P X U a X.length=(k:Int)+1:=by rw [HS.out,e]
          rw [hs2] at e3;exact e3
         clear hsl hs2;go_wp2_with fail
         go_roundw
         case rel=>exact ⟨k+1,HLt.out,by go_num,HK6.out⟩
         case measure=>simp [intOf];have:=HLt.out;omega
        case pos =>
         by_cases o3:(a:Int)<ad+fo
         case neg =>
          have hs2:(slotK P X U a X.length=(k:Int)+1)=False:=by
           rw [decide_eq_false o3,Bool.and_false] at hsl;exact eq_false (of_decide_eq_false hsl.symm)
          have g5:((s:Int) == (k:Int))=false:=by
           rw [beq_eq_false_iff_ne];intro e;have e3:slotK P X U a X.length=(k:Int)+1:=by rw [HS.out,e]
           rw [hs2] at e3;exact e3
          clear hsl hs2;go_wp2_with fail
          go_roundw
          case rel=>exact ⟨k+1,HLt.out,by go_num,HK6.out⟩
          case measure=>simp [intOf];have:=HLt.out;omega
         case pos =>
          have hs2:slotK P X U a X.length=(k:Int)+1:=by
           rw [decide_eq_true o1,decide_eq_true o2,decide_eq_true o3] at hsl;exact of_decide_eq_true hsl.symm
          have HLo:=hj_ (And.intro o2 o3);have g5:((s:Int) == (k:Int))=true:=by rw [beq_iff_eq];have:=HS.out;omega
          have g6:=HOf.out (by have:=HS.out;omega)
          have wO:IntKind.i64.wrap ((a:Int)-ad)=OO:=by rw [g6];exact IntWalk.i64_in _ (by have:=HUA.out.2;have:=HFo.out;omega)
          subst o1;have g8:(un == un)=true:=beq_self_eq_true un;clear hsl hs2 g6 o2 o3;have o2:ad≤(a:Int):=HLo.out.1;have o3:(a:Int)<ad+fo:=HLo.out.2;go_wp2_with fail
          go_roundw
          case rel=>exact ⟨k+1,HLt.out,by go_num,HK6.out⟩
          case measure=>simp [intOf];have:=HLt.out;omega
    case neg =>
     rw [if_neg hS] at hI hO;rw [decide_eq_false hS] at hBo;rw [hI,hO,hBo];clear hI hO hBo;obtain ⟨c0,c1,c2⟩:=HKg.out _ HB3.out;go_wp2_with fail;clear c0 c1 c2
     go_loopw [90] (fun iv wr=>∃ k:Nat,k≤X.length∧iv=.int .i64 k∧Below V.heap.size V wr) (fun iv _=>X.length-(intOf iv).toNat)
     case atStart=>exact ⟨0,Nat.zero_le _,rfl,HB3.out⟩
     case round =>
      obtain ⟨k,hk,rfl,hB⟩:=hrel;have HBr:=hj_ hB
      rename World=>V3
      by_cases hlt:k<X.length
      case neg =>
       have hkx:¬ (k:Int)<(X.length:Int):=by omega
       clear hB;go_wp2_with fail;go_ret;exact ⟨rfl,HV.out _ HBr.out⟩
      case pos =>
       obtain ⟨bx,ox,e0,hbx,hcell⟩:=fx_at HX.out (by omega)
       have hk4:=hcell k hlt;have hsl:=HSl.out k hlt;obtain ⟨hrn,hf1,hf2,pp,hpp⟩:=HPt.out.ok _ (List.getElem_mem hlt);obtain ⟨q,b1,o1,e1,hq,hqn,hb1l,hz⟩:=q0a6 HP.out hpp;have hfo:footV P X[k].pr=pp.ft:=by unfold footV;rw [hpp]
       subst e0 e1;have kk:=fun (q:Nat)=>HBr.out.cell (p:=⟨bx,q,none⟩) hbx
       have hbw:bx<V3.heap.size:=Nat.lt_of_lt_of_le hbx HBr.out.size;have i0:(0:Int)≤(k:Int):=by omega
       have i1:(k:Int)<(X.length:Int):=by omega
       have q0:(0:Int)≤(q:Int):=by omega
       have q1:(q:Int)<(n1:Int):=by omega
       have w0:IntKind.i64.wrap ((k:Int)+1)=(k:Int)+1:=IntWalk.i64_in _ (by have:=HX64.out.1;omega)
       have HPf2:=hj_ (fun w' hl=>HPf.out X[k].pr w' hl)
       rw [hq] at HPf2;rw [hfo] at hf1 hf2;have HZ:=hj_ (fun (w':World) (h:Below V.heap.size V w')=>(h.cell (p:=⟨b1,o1+q*4+1,none⟩) hb1l).trans hz)
       have hus:usesB P X[k] U a=(decide (X[k].un=U) && decide (X[k].ad≤(a:Int)) && decide ((a:Int)<X[k].ad+pp.ft)):=by unfold usesB;rw [hfo]
       rw [hus] at hsl;have had:1≤X[k].ad∧X[k].ad≤512:=by
        unfold qkt at hrn;simp only [Bool.and_eq_true,decide_eq_true_eq] at hrn;exact hrn.1.2
       have HLt:=hj_ hlt;clear hcell hrn hpp hq hz hus hfo hb1l hbx;generalize X[k]=x at *;generalize pp.ft=fo at *;obtain ⟨ch,pt,pr,un,ad,ph,cb⟩:=x;obtain ⟨k0,k1,k2,k3,k4,k5,k6⟩:=hk4;have p0:=(kk _).trans k0;have p1:=(kk _).trans k1;have p2:=(kk _).trans k2;have p3:=(kk _).trans k3;have p4:=(kk _).trans k4;have p5:=(kk _).trans k5;have p6:=(kk _).trans k6;clear k0 k1 k2 k3 k4 k5 k6 kk;dsimp only at p0 p1 p2 p3 p4 p5 p6 hf2 had hsl HPf2;have wF:IntKind.i64.wrap (ad+fo)=ad+fo:=IntWalk.i64_in _ (by omega)
       have HFo:=hj_ (And.intro hf1 (And.intro hf2 had));have HSlk:=hj_ hsl;clear hf1 hf2 had hsl;obtain ⟨W1,hW1⟩:∃ W1,W1=V3.alloc (.cells #[.int .i64 ch,.int .i64 pt,.string pr,.int .i64 un,.int .i64 ad,.int .i64 ph,.string cb] 36):=⟨_,rfl⟩;have hb1:Below V3.heap.size V3 W1:=by rw [hW1];exact (br_).alloc (Nat.le_refl _) _
       have hX1:Cells W1 V3.heap.size [.int .i64 ch,.int .i64 pt,.string pr,.int .i64 un,.int .i64 ad,.int .i64 ph,.string cb]:=by rw [hW1];exact Cells.fresh V3 [.int .i64 ch,.int .i64 pt,.string pr,.int .i64 un,.int .i64 ad,.int .i64 ph,.string cb] _
       have HX1:=hj_ hX1;have HB1:=hj_ (ht_ HBr.out hb1);have HW1:=hj_ hW1;obtain ⟨c0,c1,c2⟩:=HKg.out _ HBr.out;clear hW1 hb1 hX1 hB
       go_upto_region 13 with fail
       rw [← HW1.out];clear c0 c1 c2 p0 p1 p2 p3 p4 p5 p6 hlt;have hd:=q18 HB1.out 1;obtain ⟨-,c1,-⟩:=HKg.out _ hd;have x2:=(HX1.out.below (q18 (Below.refl W1.heap.size W1) 1) HX1.out.1).at_ (j:=2) rfl
       have z1:=HZ.out _ hd;go_wp2_with fail;refine wp_region_held_drew (S:=fun w'=>w'.cell? ⟨w.heap.size,1,none⟩=some (.slice (some ⟨b1,o1,none⟩) n1 d1)∧w'.cell? ⟨V3.heap.size,2,none⟩=some (.string pr)∧w'.cell? ⟨b1,o1+q*4+1,none⟩=some (.int .i64 fo)) (by kernel_rfl) (by first | exact ⟨c1,x2,z1⟩) (fun hHeld=>?_)
       refine wpAnyH_take (i:=0) (oi:=?_) (v:=?_) ?_ (by kernel_rfl) (by kernel_rfl) (by kernel_rfl) ?_ (Or.inl ⟨?_,?_⟩) (by assumption) ?_
       rotate_left 2
       ·(simp only [List.getElem?_toArray,List.getElem?_cons_zero];rfl)
       ·exact fun _ _ _ h=>h
       ·rfl
       ·(intro w hSw;(try dsimp only at hSw);go_simp;try with_reducible rfl)
       simp only [Act.put,List.setIfInBounds_toArray,List.set_cons_zero,List.set_cons_succ];refine wpAnyH_take (i:=1) (oi:=?_) (v:=?_) ?_ (by kernel_rfl) (by kernel_rfl) (by kernel_rfl) ?_ (Or.inl ⟨?_,?_⟩) (by assumption) ?_
       rotate_left 2
       ·(simp only [List.getElem?_toArray,List.getElem?_cons_succ,List.getElem?_cons_zero];rfl)
       ·exact fun _ _ _ h=>h
       ·rfl
       ·(intro w hSw;(try dsimp only at hSw);go_simp;try with_reducible rfl)
       simp only [Act.put,List.setIfInBounds_toArray,List.set_cons_zero,List.set_cons_succ];refine wpAnyH_take (i:=2) (oi:=?_) (v:=?_) ?_ (by kernel_rfl) (by kernel_rfl) (by kernel_rfl) ?_ (Or.inl ⟨?_,?_⟩) (by assumption) ?_
       rotate_left 2
       ·(simp only [List.getElem?_toArray,List.getElem?_cons_succ,List.getElem?_cons_zero];rfl)
       ·exact fun _ _ _ h=>h
       ·rfl
       ·(intro w hSw;(try dsimp only at hSw);go_simp;try with_reducible rfl)
       simp only [Act.put,List.setIfInBounds_toArray,List.set_cons_zero,List.set_cons_succ];refine wpAnyH_take (i:=3) (oi:=?_) (v:=?_) ?_ (by kernel_rfl) (by kernel_rfl) (by kernel_rfl) ?_ (Or.inl ⟨?_,?_⟩) (by assumption) ?_
       rotate_left 2
       ·(simp only [List.getElem?_toArray,List.getElem?_cons_succ,List.getElem?_cons_zero];rfl)
       ·exact fun _ _ _ h=>h
       ·rfl
       ·(intro w hSw;(try dsimp only at hSw);go_simp;try with_reducible rfl)
       simp only [Act.put,List.setIfInBounds_toArray,List.set_cons_zero,List.set_cons_succ];refine wpAnyH_take (i:=4) (oi:=?_) (v:=?_) ?_ (by kernel_rfl) (by kernel_rfl) (by kernel_rfl) ?_ (Or.inl ⟨?_,?_⟩) (by assumption) ?_
       rotate_left 2
       ·(simp only [List.getElem?_toArray,List.getElem?_cons_succ,List.getElem?_cons_zero];rfl)
       ·exact fun _ _ _ h=>h
       ·rfl
       ·(intro w hSw;(try dsimp only at hSw);go_simp;try with_reducible rfl)
       simp only [Act.put,List.setIfInBounds_toArray,List.set_cons_zero,List.set_cons_succ];refine wpAnyH_take (i:=5) (oi:=?_) (v:=?_) ?_ (by kernel_rfl) (by kernel_rfl) (by kernel_rfl) ?_ (Or.inl ⟨?_,?_⟩) (by assumption) ?_
       rotate_left 2
       ·(simp only [List.getElem?_toArray,List.getElem?_cons_succ,List.getElem?_cons_zero];rfl)
       ·exact fun _ _ _ h=>h
       ·rfl
       ·(intro w hSw;(try dsimp only at hSw);go_simp;try with_reducible rfl)
       simp only [Act.put,List.setIfInBounds_toArray,List.set_cons_zero,List.set_cons_succ];refine wpAnyH_ready (rs:=[6]) (by kernel_rfl) (by simp) ?_
       refine AllReadyH.cons rfl (fun K hK=>?_) AllReadyH.nil
       go_simp
       go_at_call 9;refine (HPf2.out _ (HP.out.below hd)).mono ?_;rintro e wk6 ⟨rfl,hb6⟩;have hk6:=ht_ hd hb6;obtain ⟨-,c1,-⟩:=HKg.out _ hk6;have x2:=(HX1.out.below ((q18 (br_) 1).trans (hb6.mono (q18 (Below.refl W1.heap.size W1) 1).size)) HX1.out.1).at_ (j:=2) rfl;have z1:=HZ.out _ hk6
       go_wp2_with fail;refine hK.out _ _ (by first | exact ⟨c1,x2,z1⟩) (fun hHeld=>?_)
       clear hK K
       try simp only [Act.put,List.setIfInBounds_toArray,List.set_cons_zero,List.set_cons_succ]
       refine wpAnyH_take (i:=7) (oi:=?_) (v:=?_) ?_ (by kernel_rfl) (by kernel_rfl) (by kernel_rfl) ?_ (Or.inl ⟨?_,?_⟩) (by assumption) ?_
       rotate_left 2
       ·(simp only [List.getElem?_toArray,List.getElem?_cons_succ,List.getElem?_cons_zero];rfl)
       ·exact fun _ _ _ h=>h
       ·rfl
       ·(intro w hSw;(try dsimp only at hSw);go_simp;try with_reducible rfl)
       simp only [Act.put,List.setIfInBounds_toArray,List.set_cons_zero,List.set_cons_succ];refine wpAnyH_take (i:=8) (oi:=?_) (v:=?_) ?_ (by kernel_rfl) (by kernel_rfl) (by kernel_rfl) ?_ (Or.inl ⟨?_,?_⟩) (by assumption) ?_
       rotate_left 2
       ·(simp only [List.getElem?_toArray,List.getElem?_cons_succ,List.getElem?_cons_zero];rfl)
       ·exact fun _ _ _ h=>h
       ·rfl
       ·(intro w hSw;(try dsimp only at hSw);go_simp;try with_reducible rfl)
       simp only [Act.put,List.setIfInBounds_toArray,List.set_cons_zero,List.set_cons_succ];refine wpAnyH_take (i:=9) (oi:=?_) (v:=?_) ?_ (by kernel_rfl) (by kernel_rfl) (by kernel_rfl) ?_ (Or.inl ⟨?_,?_⟩) (by assumption) ?_
       rotate_left 2
       ·(simp only [List.getElem?_toArray,List.getElem?_cons_succ,List.getElem?_cons_zero];rfl)
       ·exact fun _ _ _ h=>h
       ·rfl
       ·(intro w hSw;(try dsimp only at hSw);go_simp;try with_reducible rfl)
       simp only [Act.put,List.setIfInBounds_toArray,List.set_cons_zero,List.set_cons_succ];refine wpAnyH_take (i:=10) (oi:=?_) (v:=?_) ?_ (by kernel_rfl) (by kernel_rfl) (by kernel_rfl) ?_ (Or.inl ⟨?_,?_⟩) (by assumption) ?_
       rotate_left 2
       ·(simp only [List.getElem?_toArray,List.getElem?_cons_succ,List.getElem?_cons_zero];rfl)
       ·exact fun _ _ _ h=>h
       ·rfl
       ·(intro w hSw;(try dsimp only at hSw);go_simp;try with_reducible rfl)
       simp only [Act.put,List.setIfInBounds_toArray,List.set_cons_zero,List.set_cons_succ];refine wpAnyH_done (by kernel_rfl) ?_ _
       have hX6:=HX1.out.below ((q18 (br_) 1).trans (hb6.mono (q18 (Below.refl W1.heap.size W1) 1).size)) HX1.out.1;have x3:=hX6.at_ (j:=3) rfl
       have x4:=hX6.at_ (j:=4) rfl
       have HK6:=hj_ hk6;clear hd hb6 hk6 hX6 hHeld c1 x2 z1 HPf2 HZ;have hsl:=HSlk.out
       by_cases o1:un=U
       case neg =>
        have g1:(un == U)=false:=by simpa using o1
        have hs2:(slotK P X U a X.length=(k:Int)+1)=False:=by
         rw [decide_eq_false o1,Bool.false_and,Bool.false_and] at hsl;exact eq_false (of_decide_eq_false hsl.symm)
        clear hsl hs2;go_wp2_with fail
        go_roundw
        case rel=>exact ⟨k+1,HLt.out,by go_num,HK6.out⟩
        case measure=>simp [intOf];have:=HLt.out;omega
       case pos =>
        by_cases o2:ad≤(a:Int)
        case neg =>
         have hs2:(slotK P X U a X.length=(k:Int)+1)=False:=by
          rw [decide_eq_false o2,Bool.and_false,Bool.false_and] at hsl;exact eq_false (of_decide_eq_false hsl.symm)
         clear hsl hs2;go_wp2_with fail
         go_roundw
         case rel=>exact ⟨k+1,HLt.out,by go_num,HK6.out⟩
         case measure=>simp [intOf];have:=HLt.out;omega
        case pos =>
         by_cases o3:(a:Int)<ad+fo
         case neg =>
          have hs2:(slotK P X U a X.length=(k:Int)+1)=False:=by
           rw [decide_eq_false o3,Bool.and_false] at hsl;exact eq_false (of_decide_eq_false hsl.symm)
          clear hsl hs2;go_wp2_with fail
          go_roundw
          case rel=>exact ⟨k+1,HLt.out,by go_num,HK6.out⟩
          case measure=>simp [intOf];have:=HLt.out;omega
         case pos =>
          have hs2:slotK P X U a X.length=(k:Int)+1:=by
           rw [decide_eq_true o1,decide_eq_true o2,decide_eq_true o3] at hsl;exact of_decide_eq_true hsl.symm
          omega
theorem q0bd (w:World) (g:RG) (hg:g.good w) (x:Int) (hx:(Lit.int .u16 x).wf=true) (y:Int) (hy:(Lit.int .u16 y).wf=true) (hL:Laid w) :
  Calls Tryz.prog 3 #[.agg g.cs.toArray,.int .u16 x,.int .u16 y] w fun e w'=>e=.returned (.bool true)∧Below w.heap.size w w':=by
 obtain ⟨H,L,PL,X,hg⟩:=hg;have h1:=u16_bd hx;have h2:=u16_bd hy;exact q0bf w g H L PL X hg x y h1.1 h1.2 h2.1 h2.2 hL.1 hL.2
end Go.Proofs.YtmcbkdlfhffphaaGreatDoor

namespace Go.Proofs.YtmcbkdlfhffphaaGreatDoor.topSlotsAreSharedP
set_option maxHeartbeats 32000000
set_option maxRecDepth 100000
open _root_.Go.Proofs.Tryz
open Go.ChangeShapes Go.ChangeMaps Go.WideShapes Go.ChangeAt Go.RowKit
theorem lifted (os:Os) (started:os.Started) (H:Type) (enc:TypeId × Value→H) :
  ReturnsInHanded {} Tryz.checked os 3 .any (fun w args=>(Rows.topSlotsAreSharedSpec.pre enc Tryz.prog Tryz.f3 [] false w args∧laidMetH Tryz.prog Rows.topSlotsAreSharedRow.laid w)∧sizedMet enc Tryz.prog Tryz.f3 (OpenSpec.ofChange Rows.topSlotsAreSharedSpec) false w args)
   (Rows.topSlotsAreSharedSpec.post enc Tryz.prog Tryz.f3 false true false false):=by
 refine returnsInHanded_of_change_and (C:=Tryz.checked) (X:=fun w _=>laidMetH Tryz.prog Rows.topSlotsAreSharedRow.laid w) (fun _ _ _ hh h=>h.of_heap hh) own_ started (by kernel_rfl) Tryz.func3
  (ChangeSpec.witness_at (enc:=enc) (C:=Tryz.checked) (os:=os) (X:=fun w _=>laidMetH Tryz.prog Rows.topSlotsAreSharedRow.laid w) false (qcj os) #[.agg #[.slice none 0 0,.slice none 0 0,.slice none 0 0],.int .u16 0,.int .u16 0] 8 rfl (by kernel_rfl) (by kernel_rfl) (by kernel_rfl) (by kernel_rfl) (by kernel_rfl) (qck os _)) ?_
 intro W base args ds gs before hval0 hW _ hWt hL _;have hval:∀ (j:Nat) t v,Tryz.f3.params[j]? = some t→args[j]? = some v→Value.okWide Tryz.prog W .any base t v:=hval0;have hW':=hW;obtain ⟨p,q,hA0,hV,rfl,hfz,hnd⟩:=hW;have hA:DataW.TrodAll enc Tryz.prog W 0 (fun _=>true) true Tryz.f3.params.toList args.toList ds p:=hA0
 rw [Tryz.params3] at hA hval hWt;obtain ⟨v0,vs0,d0,ds0,p0,q0,hargs,rfl,rfl,h0,r0⟩:=trodAll_cons hA;obtain ⟨v1,vs1,d1,ds1,p1,q1,rfl,rfl,rfl,h1,r1⟩:=trodAll_cons r0;obtain ⟨v2,vs2,d2,ds2,p2,q2,rfl,rfl,rfl,h2,r2⟩:=trodAll_cons r1;obtain ⟨rfl,rfl,rfl⟩:=trodAll_nil r2;obtain rfl:args=#[v0,v1,v2]:=by cases args;simp_all
 obtain ⟨rfl,rfl⟩:=trodVars_none hV;have lt0:∀ x ∈ p0,x.block<W.heap.size:=by obtain ⟨m,hm⟩:=h0;exact DataW.trod_lt m _ _ _ hm
 obtain ⟨cs0,fuel0,y0,rfl,hf0⟩:=q0a Tryz.underlying26 (hval 0 26 v0 rfl rfl) h0;obtain ⟨g0,rfl,hg0⟩:=qmc hf0;obtain ⟨x1,rfl,rfl,rfl,w1⟩:=open_int Tryz.underlying27 (hval 1 27 v1 rfl rfl) h1;obtain ⟨x2,rfl,rfl,rfl,w2⟩:=open_int Tryz.underlying27 (hval 2 27 v2 rfl rfl) h2;clear hA0 hval0 hWt;simp only [List.append_nil] at hW';refine (q0bd W g0 hg0 x1 w1 x2 w2 (qcl hL)).mono fun e W' ⟨he,bel⟩=>?_
 subst he;exact ⟨_,rfl,_,_,_,[],_,[],hW',trodAll_mk1 (shut_bool Tryz.underlying4 _),(trodAll_cons_mk (Below.trod qci (by kernel_rfl) (of_decide_eq_true (by kernel_rfl)) h0 bel lt0) (trodAll_cons_mk (shut_int Tryz.underlying27 w1) (trodAll_cons_mk (shut_int Tryz.underlying27 w2) trodAll_mk0))),rfl,bel.frame _,fun h=>by cases h⟩
theorem over:Rows.topSlotsAreSharedRow.holds Tryz.pinned (OpenSpec.ofChange Rows.topSlotsAreSharedSpec) :=
 OpenClaim.holds_of_wide 3 Tryz.f3 rfl rfl rfl rfl rfl rfl rfl ⟨rfl,rfl,rfl,rfl,rfl⟩ rfl rfl rfl rfl rfl (by kernel_rfl) Tryz.func3 q0bc
  (of_decide_eq_true (by kernel_rfl)) (by unfold Func.isWrapper;rw [if_neg (of_decide_eq_false (by kernel_rfl))];exact ⟨rfl,rfl⟩)
  (fun os started H enc _=>lifted os started H enc)
theorem qew:∀ t ∈ Tryz.f3.params.toList,Tryz.prog.wantsStandIn t=false:=by
 rw [Tryz.params3];intro t ht;simp only [List.mem_cons,List.not_mem_nil,or_false] at ht
 rcases ht with rfl | rfl | rfl <;> kernel_rfl
theorem limb1:OpenClaim.wfByText (OpenSpec.ofChange Rows.topSlotsAreSharedSpec) Rows.topSlotsAreSharedRow=true:=by kernel_rfl
theorem limb2 : Tryz.pinned.checked.prog.mainIs = some ((true, "2a6848002a9ad1ea054745b71f9598b1136f1410b382e08801898f835ce1cbca").1, (true, "2a6848002a9ad1ea054745b71f9598b1136f1410b382e08801898f835ce1cbca").2.toList) := by kernel_rfl
theorem limb3:true=Tryz.pinned.checked.prog.looks []:=by kernel_rfl
theorem limb4:false=Rows.topSlotsAreSharedRow.goesBy Tryz.pinned.checked.prog:=by kernel_rfl
theorem limb5 : Tryz.prog.funcNamed "luminaire/luminairetop.TopSlotsAreShared" = some 3 := by kernel_rfl
theorem proved:Rows.TopSlotsAreSharedCardSaid :=
 Claim7.holds_tied_plain_at .later [] [.data, .data, .data, .data, .sentinel, .sentinel, .pinned] true (true, "2a6848002a9ad1ea054745b71f9598b1136f1410b382e08801898f835ce1cbca") true
  over (fun _ h=>by cases h) limb1 (fun _ h=>by cases h) topSlotsAreShared_row_tie rfl ⟨rfl,rfl⟩ limb2 rfl
  (fun f fn hf hfn=>by
   obtain rfl:f=3:=Option.some.inj (limb5.symm.trans hf) |>.symm
   obtain rfl:fn=Tryz.f3:=(Option.some.inj (Tryz.func3.symm.trans hfn)).symm;exact ⟨limb3,fun j t ht=>qew t (Array.mem_toList_iff.2 (Array.mem_of_getElem? ht))⟩)
  limb4
#print axioms proved
end Go.Proofs.YtmcbkdlfhffphaaGreatDoor.topSlotsAreSharedP
