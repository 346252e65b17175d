/- Lemmas and contracts of functions, joined for the claim: TLaw. -/
import Derived.Test.YtbfikenbgfnfiaaGreatDoorTUniI
import Derived.Test.YtbfikenbgfnfiaaGreatDoorTUniJ
import Derived.Test.YtbfikenbgfnfiaaGreatDoorTUniG
import Derived.Test.YtbfikenbgfnfiaaGreatDoorTTopB
import Derived.Test.YtbfikenbgfnfiaaGreatDoorTTopA
import Derived.Test.YtbfikenbgfnfiaaGreatDoorMLaw
import Derived.Test.YtbfikenbgfnfiaaGreatDoorMUp
namespace Go.Proofs.YtbfikenbgfnfiaaGreatDoor
set_option maxHeartbeats 32000000
open _root_.Go.Proofs.Tryz

section
open Go.RowKit
theorem q03h {κ:Type} [DecidableEq κ] {P:Program} {ops:Array Oper} {o:Oper} {a:Act} {w:World} {K:Act→World→Prop} {Q:Exit→Act→World→Prop} {E:Prop}
  (hg:o.guard=none) (m x v:Operand) (t:TypeId) (hop:o.op=Op.mapUpdate t m x v) (kt et:TypeId) (hm:P.underlying t=some (.map kt et)) (enc:κ→Value) (Kt:KeyTy P kt enc) (b:Nat) (L:List (κ × Value)) (k:κ) (val:Value)
  (he:a.eval m=.map (some b)) (hx:a.eval x=enc k) (hv:a.eval v=val) (hM:MapAt enc w b L) (hn:lookL L k=none)
  (hK:∀ w',MapAt enc w' b (L ++ [(k,val)])→w.grownBy w' (some b)→K (a.put o.dst undef) w') :
  if Region.wanted o (yielded ops a.tmps)=true then Oper.wp P o a w K Q else E:=by
 have hw:Region.wanted o (yielded ops a.tmps)=true:=by simp [Region.wanted,hg]
 rw [if_pos hw];obtain ⟨w',hrun,h1,h2⟩:=qo0 hm Kt hM k val hn;unfold Oper.wp;simp [execOp,hop,he,hx,hv,hrun,Result.andThen];exact hK w' h1 h2
theorem map_ne {κ:Type} {enc:κ→Value} {w:World} {M b o:Nat} {L:List (κ × Value)} {u:Value} (h:MapAt enc w M L) (hc:w.cell? ⟨b,o,none⟩=some u):b≠M:=by
 rintro rfl;obtain ⟨es,cl,hb,_⟩:=h;unfold World.cell? at hc;rw [show w.heap[(⟨b,o,none⟩:Addr).block]? = _ from hb] at hc
 simp at hc
set_option maxRecDepth 100000 in
theorem q03j (w:World) (g:RG) (H:List Hd) (L:List (List PT)) (PL:List (PC × List Fea)) (X:List Fx) (hg:g.Is w H L PL X) (A:Option Addr) (n c:Nat) (l:List Am) (hl:shAm.In w A n l) (hn:n≤9223372036854775806) (ht:Tab w) (hr:Rng w) :
  Calls prog 9 #[.agg g.cs.toArray,.slice A n c] w fun e w'=>e=.returned (.bool true)∧Below w.heap.size w w':=by
 obtain ⟨A0,n0,d0,A1,n1,d1,A2,n2,d2⟩:=g;obtain ⟨rfl,_⟩:=id hl;show Calls prog 9 #[.agg #[.slice A0 n0 d0,.slice A1 n1 d1,.slice A2 n2 d2],.slice A l.length c] w fun e w'=>e=.returned (.bool true)∧Below w.heap.size w w'
 have hn1l:n1=PL.length:=by have:=hg.2.1.1.1.1;simpa using this
 obtain rfl:n2=X.length:=hg.2.2.1.1;have HFr:=Lib.hid (fun w (h:RG.Is w ⟨A0,n0,d0,A1,n1,d1,A2,X.length,d2⟩ H L PL X)=>qm7 A0 n0 d0 H L A1 n1 d1 PL A2 X.length d2 w h.1.1 h.1.2.2 h.2.1.1 (Nat.le_trans h.2.1.2.2.1 h.2.1.2.2.2))
 have HFa:=Lib.hid (fun w h=>qm4 A l.length c l w h hn)
 have HAm:=Lib.hid (fun w h (hs:∀ a ∈ l,a.lev.size≤1000)=>qks A l.length c l w h hn hs)
 have HLamp:=Lib.hid (fun w ht hr=>q029 w ht hr)
 have HG:=Lib.hid hg;have HL:=Lib.hid hl;have HT:=Lib.hid ht;have HRg:=Lib.hid hr;have HN1:=Lib.hid hn1l;have HN:=Lib.hid hn;clear hg hl hn ht hr hn1l;obtain ⟨W,hW⟩:∃ W,W=(w.alloc (.cells #[.slice A0 n0 d0,.slice A1 n1 d1,.slice A2 X.length d2] 26)):=⟨_,rfl⟩;obtain ⟨hB0,hK0⟩:=box1 #[.slice A0 n0 d0,.slice A1 n1 d1,.slice A2 X.length d2] 26 w W hW;have hK:∀ w',Below W.heap.size W w'→w'.cell? ⟨w.heap.size,0,none⟩=some (.slice A0 n0 d0)∧w'.cell? ⟨w.heap.size,1,none⟩=some (.slice A1 n1 d1)∧w'.cell? ⟨w.heap.size,2,none⟩=some (.slice A2 X.length d2):=fun w' h=>⟨(hK0 w' h) 0 _ rfl,(hK0 w' h) 1 _ rfl,(hK0 w' h) 2 _ rfl⟩
 have HK:=Lib.hid hK;have HW:=Lib.hid hW;have HB0:=Lib.hid hB0;have hB:=Below.refl W.heap.size W;obtain ⟨c0,c1,c2⟩:=hK W hB;clear hW hB0 hK hK0;replace HG:=Lib.hid (HG.out.below HB0.out);replace HL:=Lib.hid (HL.out.below HB0.out);replace HT:=Lib.hid (HT.out.below HB0.out);replace HRg:=Lib.hid (HRg.out.below HB0.out);have HFin:=Lib.hid (fun (w':World) (h:Below W.heap.size W w')=>HB0.out.trans (h.mono HB0.out.size))
 go_enter func9,ntmps9
 go_wp2_with fail;rw [← HW.out];refine uq_ (HLamp.out _ (HT.out.below hB) (HRg.out.below hB)) hB ?_;clear hB;intro wk hB;obtain ⟨c0,c1,c2⟩:=HK.out _ hB;go_wp2_with fail;obtain ⟨V,hV⟩:∃ V,V=wk.alloc (.cells #[.slice A0 n0 d0,.slice A1 n1 d1,.slice A2 X.length d2] 29):=⟨_,rfl⟩;have hR:Cells V wk.heap.size [.slice A0 n0 d0,.slice A1 n1 d1,.slice A2 X.length d2]:=by rw [hV];exact Cells.fresh wk [.slice A0 n0 d0,.slice A1 n1 d1,.slice A2 X.length d2] _
 have hVB:Below W.heap.size W V:=by rw [hV];exact hB.alloc hB.size _
 rw [← hV];clear hV hB c0 c1 c2;generalize wk.heap.size=Pr at *;have HVB:=Lib.hid hVB;have HR3:=Lib.hid hR;have HWs:=Lib.hid (show w.heap.size<V.heap.size by
  have h1:=hVB.size;have h2:w.heap.size<W.heap.size:=by rw [HW.out];simp
  omega)
 have HK2:=Lib.hid (fun w' (h:Below V.heap.size V w')=>And.intro (HK.out w' (HVB.out.trans (h.mono HVB.out.size))) (And.intro ((HR3.out.below h HR3.out.1).at_ (j:=0) rfl) (And.intro ((HR3.out.below h HR3.out.1).at_ (j:=1) rfl) ((HR3.out.below h HR3.out.1).at_ (j:=2) rfl))))
 have HV:=Lib.hid (fun w' (h:Below V.heap.size V w')=>HFin.out _ (HVB.out.trans (h.mono HVB.out.size)))
 replace HG:=Lib.hid (HG.out.below hVB);replace HL:=Lib.hid (HL.out.below hVB);replace HT:=Lib.hid (HT.out.below hVB);replace HRg:=Lib.hid (HRg.out.below hVB);obtain ⟨⟨c0,c1,c2⟩,c3,c4,c5⟩:=HK2.out _ (Below.refl V.heap.size V);clear hR hVB HFin HR3 HK HW HB0 HVB;refine (HFr.out _ HG.out).mono ?_;rintro e wk ⟨rfl,hB⟩
 cases hfr:fewRg L PL X.length with
 | false =>
  clear HFr;go_wp2_with fail;go_ret;exact ⟨rfl,HV.out _ hB⟩
 | true =>
  have hfw:=q7x hfr;have hn1:n1≤9223372036854775806:=by have h9:=hfw.1;have h8:=HN1.out;omega
  have hn2:X.length≤9223372036854775806:=by have h9:=hfw.2.1;omega
  have HRc:=Lib.hid (fun w (h:RG.Is w ⟨A0,n0,d0,A1,n1,d1,A2,X.length,d2⟩ H L PL X)=>ql9 A0 n0 d0 H L A1 n1 d1 PL A2 X.length d2 X w h.1.1 h.1.2.1 h.1.2.2 (h.2.1.1.few hfr) h.2.1.2.1 hn1 h.2.1.2.2.1 h.2.1.2.2.2 h.2.2.1 hn2 h.2.2.2.2)
  clear HFr hn2 hfw c0 c1 c2 c3 c4 c5;obtain ⟨⟨c0,c1,c2⟩,c3,c4,c5⟩:=HK2.out _ hB;go_wp2_with fail;refine uq_ (HFa.out _ (HL.out.below hB)) hB ?_;clear hB;intro wk hB
  cases hfa:fewAm l with
  | false =>
   go_wp2_with fail;go_ret;exact ⟨rfl,HV.out _ hB⟩
  | true =>
   have hlen:=q7o hfa;have hs:∀ a ∈ l,a.lev.size≤1000:=fun a h=>Nat.le_trans (hlen.2 a h) (by decide)
   have hl120:∀ a ∈ l,a.lev.size≤120:=fun a h=>Nat.le_trans (hlen.2 a h) (by decide)
   replace HAm:=Lib.hid (fun w h=>HAm.out w h hs)
   clear hs HFa c0 c1 c2 c3 c4 c5;obtain ⟨⟨c0,c1,c2⟩,c3,c4,c5⟩:=HK2.out _ hB;go_wp2_with fail;refine uq_ (HRc.out _ (HG.out.below hB)) hB ?_;clear hB;intro wk hB
   by_cases hue:uniE L PL X=0
   case neg =>
    have g1:(uniE L PL X == 0)=false:=by simpa using hue
    go_wp2_with fail;go_ret;exact ⟨rfl,HV.out _ hB⟩
   case pos =>
    rw [hue];clear c0 c1 c2 c3 c4 c5 HRc;obtain ⟨⟨c0,c1,c2⟩,c3,c4,c5⟩:=HK2.out _ hB;go_wp2_with fail;refine uq_ (HAm.out _ (HL.out.below hB)) hB ?_;clear hB;intro wk hB
    by_cases hge:givE l=0
    case neg =>
     have g1:(givE l == 0)=false:=by simpa using hge
     go_wp2_with fail;go_ret;exact ⟨rfl,HV.out _ hB⟩
    case pos =>
     rw [hge];clear c0 c1 c2 c3 c4 c5 HAm;have HF1:=Lib.hid (fun w (h:RG.Is w ⟨A0,n0,d0,A1,n1,d1,A2,X.length,d2⟩ H L PL X) h4 ht hr=>qtn A0 n0 d0 H L A1 n1 d1 PL A2 X.length d2 X A l.length c l w h.1.1 h.1.2.1 h.1.2.2 (h.2.1.1.few hfr) hn1 h.2.2.1 h.2.2.2.1.1 h.2.2.2.1.2 h.2.2.2.2 h4 HN.out hl120 ht hr)
     obtain ⟨fe1,fv1,fr1,fl1⟩:=q00r hue hge (l:=l);rw [fe1,fv1] at HF1;have HFm:=Lib.hid (show ∀ x ∈ frmG (usedU X) (pageV L l PL X) 8,x.sl=⟨(pageV L l PL X x.un).toArray⟩∧x.sl.size=512 from fun x hx=>by
      have:=q9m (usedU X) (pageV L l PL X) 8 x hx
      have h2:=qg7 L l PL x.un X;exact ⟨ByteArray.ext (Array.ext' (by rw [this])),by show x.sl.data.toList.length=512;rw [this];exact h2⟩)
     have HFl:=Lib.hid (show (frmG (usedU X) (pageV L l PL X) 8).length≤8 from fv1 ▸ fl1)
     have HKn:=Lib.hid (q03f (l:=l) (rig_ok hue));generalize frmG (usedU X) (pageV L l PL X) 8=F at *;clear fe1 fv1 fr1 fl1;obtain ⟨⟨c0,c1,c2⟩,c3,c4,c5⟩:=HK2.out _ hB;go_wp2_with fail;refine (HF1.out _ (HG.out.below hB) (HL.out.below hB) (HT.out.below hB) (HRg.out.below hB)).mono ?_;rintro e w5 ⟨r,rfl,B1,e1,rfl,ho,hb⟩;have HI1:=Lib.hid (Sh.In.of_own ho rfl);replace hB:=hB.trans (hb.mono hB.size);clear ho hb c0 c1 c2 c3 c4 c5;obtain ⟨⟨c0,c1,c2⟩,c3,c4,c5⟩:=HK2.out _ hB;have hmm:∀ w,(Instr.makeMap 83 none).run prog w=.ok (.map (some w.heap.size)) (w.alloc (.map #[] 0)):=fun w=>run_makeMap _ w
     have m2:¬ w.heap.size=w5.heap.size:=by have h1:=HWs.out;have h2:=hB.size;omega
     have d2':(w5.alloc (.map #[] 0)).cell? ⟨w.heap.size,2,none⟩=some (.slice A2 X.length d2):=(((Below.refl w5.heap.size w5).alloc (Nat.le_refl _) (.map #[] 0)).cell (p:=⟨w.heap.size,2,none⟩) (show w.heap.size<w5.heap.size by have h1:=HWs.out;have h2:=hB.size;omega)).trans c2
     have HM0:=Lib.hid (MapAt.made pK w5);have HB5:=Lib.hid hB;obtain ⟨W5,hW5⟩:∃ W5,W5=w5.alloc (.map #[] 0):=⟨_,rfl⟩;rw [← hW5] at HM0;have HBW5:=Lib.hid (show Below w5.heap.size w5 W5 by rw [hW5];exact (Below.refl _ _).alloc (Nat.le_refl _) _)
     have HW5:=Lib.hid hW5;clear hW5;go_wp2_with fail;rw [← HW5.out];clear c0 c1 c2 c3 c4 c5 hmm m2 d2' HF1 HLamp hB hlen;obtain ⟨hA0,hX64,hFx,hFe⟩:=qu8 hue;have hok:=rig_ok hue;have HP:=Lib.hid (show InPs V A1 n1 PL from HG.out.2.1.1.few hfr)
     have HX:=Lib.hid (show shX.In V A2 X.length X from HG.out.2.2.1)
     have HIN:=Lib.hid (show InN V A0 n0 H L from HG.out.1.1)
     have HPf:=Lib.hid (fun (s:ByteArray) w' hl=>qna A1 n1 d1 (PL.map Prod.fst) s w' hl hn1)
     have HXl:=Lib.hid (show X.length≤64 from hX64)
     have HFx:=Lib.hid hFx;have HFe:=Lib.hid hFe;obtain ⟨M,hM⟩:∃ M,M=w5.heap.size:=⟨_,rfl⟩
     go_loopw [4,56] (fun _ iv wr=>∃ i:Nat,i≤X.length∧iv=.int .i64 i∧MapAt pK wr w5.heap.size (knA L l PL (X.take i))∧Below w5.heap.size w5 wr) (fun _ iv _=>X.length-(intOf iv).toNat)
     case atStart=>exact ⟨0,Nat.zero_le _,rfl,HM0.out,HBW5.out⟩
     case round =>
      obtain ⟨i,hi,rfl,hMa,hR⟩:=hrel
      rename World=>V3
      have HMa:=Lib.hid hMa;have HR3:=Lib.hid hR;have HB3:=Lib.hid (HB5.out.trans (hR.mono HB5.out.size));clear hMa hR
      by_cases hlt:i<X.length
      case neg =>
       obtain rfl:i=X.length:=by omega
       have hM9:=HMa.out;rw [List.take_length] at hM9;have HM9:=Lib.hid hM9;have HI9:=Lib.hid (HI1.out.below HR3.out);clear hM9;generalize knA L l PL X=K at *;have HPg:=Lib.hid (fun (u:Int) (a:Nat) (ha:a<512)=>HKn.out u a ha)
       generalize pageV L l PL X=pg at *;go_wp2_with fail
       go_loopw [4,160] (fun _ iv wr=>∃ q:Nat,q≤F.length∧iv=.int .i64 q∧MapAt pK wr w5.heap.size K∧Below V3.heap.size V3 wr) (fun _ iv _=>F.length-(intOf iv).toNat)
       case atStart=>exact ⟨0,Nat.zero_le _,rfl,HM9.out,Below.refl _ _⟩
       case round =>
        obtain ⟨q,hq,rfl,hMa,hR⟩:=hrel
        rename World=>V4
        by_cases hlt4:q<F.length
        case neg =>
         have hq':¬ (q:Int)<(F.length:Int):=by omega
         have hz:=HV.out _ (HB3.out.trans (hR.mono HB3.out.size));clear hMa hR;go_wp2_with fail;go_ret;exact ⟨rfl,hz⟩
        case pos =>
         obtain ⟨b,o,rfl,hbl,hcell⟩:=fm_at HI9.out (by omega)
         obtain ⟨k0,k1⟩:=hcell q hlt4;have p0:=(hR.cell (p:=⟨b,o+q*2,none⟩) hbl).trans k0;have p1:=(hR.cell (p:=⟨b,o+q*2+1,none⟩) hbl).trans k1;have hbw:b<V4.heap.size:=Nat.lt_of_lt_of_le hbl hR.size;have hfm:=HFm.out F[q] (List.getElem_mem hlt4);have i0:(0:Int)≤(q:Int):=by omega
         have i1:(q:Int)<(F.length:Int):=by omega
         have w0:IntKind.i64.wrap ((q:Int)+1)=(q:Int)+1:=IntWalk.i64_in _ (by have:=HFl.out;omega)
         clear hcell k0 k1;generalize F[q]=x at *;obtain ⟨fu,fs⟩:=x;dsimp only at p0 p1 hfm;obtain ⟨hfe,hfs⟩:=hfm;have g0:((fs.size:Int) == 512)=true:=by rw [hfs];rfl
         have HFe2:=Lib.hid hfe;have HFs:=Lib.hid hfs;obtain ⟨W1,hW1⟩:∃ W1,W1=V4.alloc (.cells #[.int .i64 fu,.string fs] 66):=⟨_,rfl⟩;have hb1:Below V4.heap.size V4 W1:=by rw [hW1];exact (Below.refl _ _).alloc (Nat.le_refl _) _
         have HX1:=Lib.hid (show Cells W1 V4.heap.size [.int .i64 fu,.string fs] by rw [hW1];exact Cells.fresh V4 [.int .i64 fu,.string fs] _)
         have HR1:=Lib.hid (hR.trans (hb1.mono hR.size));have HM1:=Lib.hid (hMa.keep (hb1.block _ hMa.lt));have HW1:=Lib.hid hW1;clear hW1 hb1 hMa hR hfe hfs;go_wp2_with fail;rw [← HW1.out];clear p0 p1
         go_loopw [4,168] (fun _ iv wr=>∃ a:Nat,a≤512∧iv=.int .i64 a∧MapAt pK wr w5.heap.size K∧Below V3.heap.size V3 wr∧Cells wr V4.heap.size [.int .i64 fu,.string fs]) (fun _ iv _=>512-(intOf iv).toNat)
         case atStart=>exact ⟨0,Nat.zero_le _,rfl,HM1.out,HR1.out,HX1.out⟩
         case round =>
          obtain ⟨a,ha,rfl,hMa,hR,hX⟩:=hrel
          rename World=>V5
          have HM5:=Lib.hid hMa;have HR5:=Lib.hid hR;have HX5:=Lib.hid hX;clear hMa hR hX
          by_cases hla:a<512
          case neg =>
           obtain rfl:a=512:=by omega
           go_wp2_with fail
           go_roundw
           case rel=>exact ⟨q+1,hlt4,by go_num,HM5.out,HR5.out⟩
           case measure=>simp [intOf];omega
          case pos =>
           have hkf:a<fs.size:=by have:=HFs.out;omega
           have hpg:=HPg.out fu a hla;have hby:fs[a]=(pg fu).getD a 0:=by
            rw [← at_get (f:=⟨fu,fs⟩) (by exact hkf)]
            unfold Fm.at_
            rw [HFe2.out]
           rw [← hby] at hpg;obtain ⟨c1,hc1⟩:∃ c1,fs[a]=c1:=⟨_,rfl⟩;rw [hc1] at hpg;have j0:(0:Int)≤(a:Int):=by omega
           have j1:(a:Int)<512:=by omega
           have j2:(a:Int)<(fs.size:Int):=by omega
           have w1:IntKind.i64.wrap ((a:Int)+1)=(a:Int)+1:=IntWalk.i64_in _ (by omega)
           have w2:IntKind.i64.wrap (c1.toNat:Int)=(c1.toNat:Int):=IntWalk.i64_in _ (by have:=c1.toNat_lt;omega)
           have hlk:lookV false K (fu,(a:Int)+1) (.int .i64 0)=.int .i64 (c1.toNat:Int):=hpg;have g1:((c1.toNat:Int) != (c1.toNat:Int))=false:=by simp
           have HLk:=Lib.hid hlk;have hm0:=HM5.out.keep (w':=V5.drewN 1) rfl;have x0:=(q18 (Below.refl V5.heap.size V5) 1).cell (p:=⟨V4.heap.size,0,none⟩) HX5.out.1 |>.trans (HX5.out.at_ (j:=0) rfl)
           have x1:=(q18 (Below.refl V5.heap.size V5) 1).cell (p:=⟨V4.heap.size,1,none⟩) HX5.out.1 |>.trans (HX5.out.at_ (j:=1) rfl)
           clear hby hpg hlk;go_wp2_with fail;refine wp_region_held_drew (S:=fun w'=>w'.cell? ⟨V4.heap.size,0,none⟩=some (.int .i64 fu)∧w'.cell? ⟨V4.heap.size,1,none⟩=some (.string fs)∧MapAt pK w' w5.heap.size K) (by kernel_rfl) (by first | exact ⟨x0,x1,hm0⟩) (fun hHeld=>?_)
           repeat
            refine tk (i:=?_) (oi:=?_) (v:=?_) ?_ ?_ ?_ ?_ ?_ ?_ ?_ ?_ ?_
            rotate_left 3
            ·first | exact Eq.refl 0 | exact Eq.refl 1 | exact Eq.refl 2 | exact Eq.refl 3 | exact Eq.refl 4 | exact Eq.refl 5 | exact Eq.refl 6 | exact Eq.refl 7 | exact Eq.refl 8 | exact Eq.refl 9 | exact Eq.refl 10
            ·simp only [List.getElem?_toArray,List.getElem?_cons_succ,List.getElem?_cons_zero];rfl
            ·kernel_rfl
            ·kernel_rfl
            ·kernel_rfl
            rotate_left 1
            ·first | (refine Or.inl ⟨?_,?_⟩;(· rfl);intro w hSw;(try dsimp only at hSw);go_simp;try with_reducible rfl) | exact Or.inr ⟨rfl,rfl⟩
            ·assumption
            rotate_left 1
            ·exact fun _ _ _ h=>h
            simp only [Act.put,List.setIfInBounds_toArray,List.set_cons_zero,List.set_cons_succ]
           refine tk (i:=11) (oi:=?_) (v:=.int .i64 (c1.toNat:Int)) ?_ ?_ ?_ ?_ ?_ ?_ ?_ ?_ ?_
           rotate_left 1
           ·exact Eq.refl 11
           ·simp only [List.getElem?_toArray,List.getElem?_cons_succ,List.getElem?_cons_zero];rfl
           ·kernel_rfl
           ·kernel_rfl
           ·kernel_rfl
           rotate_left 1
           ·refine Or.inl ⟨?_,?_⟩
            ·rfl
            ·intro w hSw
             have hk:=qnx underlying83 kTwo hSw.2.2 (fu,(a:Int)+1) (z:=.int .i64 0) (by kernel_rfl) false
             rw [HLk.out] at hk
             go_simp
           ·assumption
           rotate_left 1
           ·exact fun _ _ _ h=>h
           simp only [Act.put,List.setIfInBounds_toArray,List.set_cons_zero,List.set_cons_succ]
           repeat
            refine tk (i:=?_) (oi:=?_) (v:=?_) ?_ ?_ ?_ ?_ ?_ ?_ ?_ ?_ ?_
            rotate_left 3
            ·first | exact Eq.refl 0 | exact Eq.refl 1 | exact Eq.refl 2 | exact Eq.refl 3 | exact Eq.refl 4 | exact Eq.refl 5 | exact Eq.refl 6 | exact Eq.refl 7 | exact Eq.refl 8 | exact Eq.refl 9 | exact Eq.refl 10 | exact Eq.refl 11 | exact Eq.refl 12
            ·simp only [List.getElem?_toArray,List.getElem?_cons_succ,List.getElem?_cons_zero];rfl
            ·kernel_rfl
            ·kernel_rfl
            ·kernel_rfl
            rotate_left 1
            ·first | (refine Or.inl ⟨?_,?_⟩;(· rfl);intro w hSw;(try dsimp only at hSw);go_simp;try with_reducible rfl) | exact Or.inr ⟨rfl,rfl⟩
            ·assumption
            rotate_left 1
            ·exact fun _ _ _ h=>h
            simp only [Act.put,List.setIfInBounds_toArray,List.set_cons_zero,List.set_cons_succ]
           refine wpAnyH_done (by kernel_rfl) ?_ _
           have HM6:=Lib.hid (HM5.out.keep (w':=V5.drew) rfl);have HR6:=Lib.hid HR5.out.drew;have HX6:=Lib.hid (HX5.out.below (Below.refl V5.heap.size V5).drew HX5.out.1);clear hHeld hm0 x0 x1;go_wp2_with fail
           go_roundw
           case rel=>exact ⟨a+1,hla,by go_num,HM6.out,HR6.out,HX6.out⟩
           case measure=>simp [intOf];omega
      case pos =>
       obtain ⟨b,o,rfl,hbl,hcell⟩:=fx_at HX.out (by omega)
       have hk4:=hcell i hlt;have kk:=fun (q:Nat)=>HB3.out.cell (p:=⟨b,q,none⟩) hbl
       have hbw:b<V3.heap.size:=Nat.lt_of_lt_of_le hbl HB3.out.size;obtain ⟨hrn,hf1,hf2,p,hp⟩:=HFx.out i hlt;have hpf:=q83 PL X[i].pr;rw [hp] at hpf;obtain ⟨y,hy,hyp⟩:∃ y,PL.find? (fun x=>decide (x.1.s=X[i].pr))=some y∧y.1=p:=by
        cases hq:PL.find? (fun x=>decide (x.1.s=X[i].pr)) with
        | none=>rw [hq] at hpf;cases hpf
        | some y=>rw [hq] at hpf;injection hpf with hpf;exact ⟨y,rfl,hpf.symm⟩
       have hym:=List.mem_of_find?_eq_some hy;have hfv:featV PL X[i].pr=y.2:=by unfold featV;rw [hy]
       obtain ⟨H',hH'⟩:=HP.out.2 y hym;have hFe:=HFe.out y hym;have hpush:=q03b L l PL (X.take i) X[i];rw [← List.take_succ_eq_append_getElem hlt,hfv] at hpush;have i0:(0:Int)≤(i:Int):=by omega
       have i1:(i:Int)<(X.length:Int):=by omega
       have w0:IntKind.i64.wrap ((i:Int)+1)=(i:Int)+1:=IntWalk.i64_in _ (by have:=HXl.out;omega)
       have hnn:¬ pcI (PL.map Prod.fst) X[i].pr<0:=fun h=>by rw [qgv.1 h] at hp;cases hp
       have hat:=pcI_at hnn;rw [hp] at hat;have hge:=pcI_ge (PL.map Prod.fst) X[i].pr;have hlt2:=pcI_lt (PL.map Prod.fst) X[i].pr;obtain ⟨k,hk⟩:∃ k:Nat,pcI (PL.map Prod.fst) X[i].pr=k:=⟨(pcI (PL.map Prod.fst) X[i].pr).toNat,by omega⟩
       have hkl:k<(PL.map Prod.fst).length:=by omega
       rw [hk,show ((k:Int).toNat)=k by omega,qa1 hkl] at hat
       injection hat with hat
       have HPf2:=Lib.hid (fun w' hl=>HPf.out X[i].pr w' hl)
       rw [hk] at HPf2;obtain ⟨b1,o1,rfl,hbl1,hcell1⟩:=pc_at HP.out.1 (by omega)
       have hpk:=(hcell1 k hkl).2.2.2;rw [← hat,← hyp] at hpk;have HC:=Lib.hid (fun (w':World) (h:Below V.heap.size V w')=>And.intro ((h.cell (p:=⟨b1,o1+k*4+3,none⟩) hbl1).trans hpk) (Nat.lt_of_lt_of_le hbl1 h.size))
       have q0:(0:Int)≤(k:Int):=by omega
       have q1:(k:Int)<(n1:Int):=by have:=HP.out.1.1;omega
       have HNew:=Lib.hid (fun (j:Nat) (hj:j<(featV PL X[i].pr).length) (o:Int) ho=>kn_new (l:=l) hok hlt hj (o:=o) ho)
       have HFit:=Lib.hid (fun (j:Nat) (hj:j<(featV PL X[i].pr).length)=>hok.fit _ (List.getElem_mem hlt) _ (List.getElem_mem hj))
       rw [hfv] at HNew HFit;clear hcell hp hpf hy hnn hat hge hlt2 hk hcell1 hpk hrn hf1 hf2 hym;generalize X[i]=x at *;obtain ⟨ch,pt,pr,un,ad,ph,cb⟩:=x;obtain ⟨k0,k1,k2,k3,k4,k5,k6⟩:=hk4;have p0:=(kk _).trans k0;have p1:=(kk _).trans k1;have p2:=(kk _).trans k2;have p3:=(kk _).trans k3;have p4:=(kk _).trans k4;have p5:=(kk _).trans k5;have p6:=(kk _).trans k6;clear k0 k1 k2 k3 k4 k5 k6 kk;dsimp only at p0 p1 p2 p3 p4 p5 p6 HPf2;obtain ⟨⟨ys,yf,yw,yA,yn,yc⟩,yl⟩:=y;dsimp only at hyp hpush hH' hFe HC HNew HFit;clear hyp;have HPush:=Lib.hid hpush;have HH':=Lib.hid hH';have HFe2:=Lib.hid hFe;obtain ⟨W1,hW1⟩:∃ W1,W1=V3.alloc (.cells #[.int .i64 ch,.int .i64 pt,.string pr,.int .i64 un,.int .i64 ad,.int .i64 ph,.string cb] 55):=⟨_,rfl⟩;have hb1:Below V3.heap.size V3 W1:=by rw [hW1];exact (Below.refl _ _).alloc (Nat.le_refl _) _
       have HX1:=Lib.hid (show Cells W1 V3.heap.size [.int .i64 ch,.int .i64 pt,.string pr,.int .i64 un,.int .i64 ad,.int .i64 ph,.string cb] by rw [hW1];exact Cells.fresh V3 [.int .i64 ch,.int .i64 pt,.string pr,.int .i64 un,.int .i64 ad,.int .i64 ph,.string cb] _)
       have HB1:=Lib.hid (HB3.out.trans (hb1.mono HB3.out.size));have HR1:=Lib.hid (HR3.out.trans (hb1.mono HR3.out.size));have HM1:=Lib.hid (HMa.out.keep (hb1.block _ HMa.out.lt));have HW1:=Lib.hid hW1;have m1:w.heap.size<V3.heap.size:=by have h1:=HWs.out;have h2:=HB3.out.size;omega
       have m2:¬ w.heap.size=V3.heap.size:=by omega
       obtain ⟨⟨c0,c1,c2⟩,c3,c4,c5⟩:=HK2.out _ HB3.out;clear hpush hH' hFe hW1 hb1 hfv;go_wp2_with fail;rw [← HW1.out];refine (HPf2.out _ (HP.out.1.below HB1.out)).mono ?_;rintro e w6 ⟨rfl,hb⟩;have HX6:=Lib.hid (HX1.out.below hb HX1.out.1);have HB6:=Lib.hid (HB1.out.trans (hb.mono HB1.out.size));have HR6:=Lib.hid (HR1.out.trans (hb.mono HR1.out.size));have HM6:=Lib.hid (HM1.out.keep (hb.block _ HM1.out.lt));have hynl:yn=yl.length:=by have:=HH'.out.1.1.1;have:=HH'.out.1.2.1;omega
       have hyn2:=HH'.out.2.1;subst hynl;clear hb c0 c1 c2 c3 c4 c5 p0 p1 p2 p3 p4 p5 p6 m2 HPf2;obtain ⟨⟨c0,c1,c2⟩,-⟩:=HK2.out _ HB6.out;obtain ⟨z1,z2⟩:=HC.out _ HB6.out;go_wp2_with fail;clear c0 c1 c2 z1 z2
       go_loopw [4,72] (fun _ iv wr=>∃ j:Nat,j≤yl.length∧iv=.int .i64 j∧MapAt pK wr w5.heap.size (knA L l PL (X.take i) ++ knX L l ⟨ch,pt,pr,un,ad,ph,cb⟩ (yl.take j))∧Below w5.heap.size w5 wr∧Cells wr V3.heap.size [.int .i64 ch,.int .i64 pt,.string pr,.int .i64 un,.int .i64 ad,.int .i64 ph,.string cb]) (fun _ iv _=>yl.length-(intOf iv).toNat)
       case atStart=>exact ⟨0,Nat.zero_le _,rfl,by show MapAt pK w6 w5.heap.size (_ ++ []);rw [List.append_nil];exact HM6.out,HR6.out,HX6.out⟩
       case round =>
        obtain ⟨j,hj,rfl,hMa,hR,hX⟩:=hrel
        rename World=>V4
        have HM4:=Lib.hid hMa;have HR4:=Lib.hid hR;have HX4:=Lib.hid hX;have HB4:=Lib.hid (HB5.out.trans (hR.mono HB5.out.size));have hV43:=hX.1;clear hMa hR hX
        by_cases hlt4:j<yl.length
        case neg =>
         obtain rfl:j=yl.length:=by omega
         have hM5:=HM4.out;rw [List.take_length] at hM5;have HM5:=Lib.hid hM5;clear hM5;go_wp2_with fail
         go_roundw
         case rel=>exact ⟨i+1,hlt,by go_num,by rw [HPush.out];exact HM5.out,HR4.out⟩
         case measure=>simp [intOf];omega
        case pos =>
         have hjH:j<H'.length:=by have:=HH'.out.1.2.1;omega
         obtain ⟨b2,o2,rfl,hbl2,hc2⟩:=ft_at HH'.out.1.1 (by omega)
         have hkf:=hc2 j hjH;have hfx:=(HH'.out.1.2.2 j hjH hlt4).1;have hfw:=HH'.out.2.2 j hjH hlt4;have hgd:=HFe2.out yl[j] (List.getElem_mem hlt4);have hpush:=q03d L l ⟨ch,pt,pr,un,ad,ph,cb⟩ (yl.take j) yl[j];rw [← List.take_succ_eq_append_getElem hlt4] at hpush;have hnew:=fun o ho=>HNew.out j hlt4 o ho
         have hfit:=HFit.out j hlt4;have j0:(0:Int)≤(j:Int):=by omega
         have j1:(j:Int)<(yl.length:Int):=by omega
         have w2:IntKind.i64.wrap ((j:Int)+1)=(j:Int)+1:=IntWalk.i64_in _ (by omega)
         rw [hfx] at hgd hpush hnew hfit;generalize yl[j].wh=wh at *;clear hfx hc2;generalize H'[j]=f at *;obtain ⟨at_,bits,co,fi,cu,ho,lo,hi,sn,fA,fn,fc⟩:=f
         obtain ⟨hal,hco1,hfi1⟩:=hgd;have hhome:isLev ho:=q0f hal;have htl:=qsl hge hl120 (ch:=ch) (at_:=at_) hhome
         have hrawE:rawE (FC.fea ⟨at_,bits,co,fi,cu,ho,lo,hi,sn,fA,fn,fc⟩ wh) L (toldT l ch at_ ho)=0:=q7i hal htl.1
         obtain ⟨hb816,hr0,hr1,hr2,hr3,hbE⟩:=ql3 hrawE;obtain ⟨-,hc1,hc2,hc3⟩:=hfit;have hho:-9223372036854775808≤ho∧ho≤9223372036854775807:=by unfold isLev at hhome;omega
         have hbV:bytesV (FC.fea ⟨at_,bits,co,fi,cu,ho,lo,hi,sn,fA,fn,fc⟩ wh) (rawV (FC.fea ⟨at_,bits,co,fi,cu,ho,lo,hi,sn,fA,fn,fc⟩ wh) L (toldT l ch at_ ho))=if bits=8 then [rawV (FC.fea ⟨at_,bits,co,fi,cu,ho,lo,hi,sn,fA,fn,fc⟩ wh) L (toldT l ch at_ ho)] else [rawV (FC.fea ⟨at_,bits,co,fi,cu,ho,lo,hi,sn,fA,fn,fc⟩ wh) L (toldT l ch at_ ho) / 256,rawV (FC.fea ⟨at_,bits,co,fi,cu,ho,lo,hi,sn,fA,fn,fc⟩ wh) L (toldT l ch at_ ho) % 256]:=by
          unfold bytesV;rw [if_neg (fun h=>h hbE)]
          rfl
         have HRaw0:=Lib.hid (fun w hw hl ht hr=>qig ⟨at_,bits,co,fi,cu,ho,lo,hi,sn,fA,fn,fc⟩ wh A0 n0 d0 H L (toldT l ch at_ ho) w hw hl HG.out.1.2.1 HG.out.1.2.2 htl.2 ht hr)
         have HBy0:=Lib.hid (fun w hw=>qgt ⟨at_,bits,co,fi,cu,ho,lo,hi,sn,fA,fn,fc⟩ wh (rawV (FC.fea ⟨at_,bits,co,fi,cu,ho,lo,hi,sn,fA,fn,fc⟩ wh) L (toldT l ch at_ ho)) w hw)
         rw [hrawE] at HRaw0;rw [hbE,hbV] at HBy0;have hpush2:knA L l PL (X.take i) ++ knX L l ⟨ch,pt,pr,un,ad,ph,cb⟩ (yl.take (j+1))=(knA L l PL (X.take i) ++ knX L l ⟨ch,pt,pr,un,ad,ph,cb⟩ (yl.take j)) ++ (if bits=16 then [((un,ad+co),.int .i64 (rawV (FC.fea ⟨at_,bits,co,fi,cu,ho,lo,hi,sn,fA,fn,fc⟩ wh) L (toldT l ch at_ ho) / 256)),((un,ad+fi),.int .i64 (rawV (FC.fea ⟨at_,bits,co,fi,cu,ho,lo,hi,sn,fA,fn,fc⟩ wh) L (toldT l ch at_ ho) % 256))] else [((un,ad+co),.int .i64 (rawV (FC.fea ⟨at_,bits,co,fi,cu,ho,lo,hi,sn,fA,fn,fc⟩ wh) L (toldT l ch at_ ho)))]):=by
          rw [hpush,← List.append_assoc]
          rfl
         have n1':=hnew co (.inl rfl);have n2':=fun (h16:bits=16)=>hnew fi (.inr ⟨h16,rfl⟩)
         change lookL _ (un,ad+co)=none at n1';change bits=16→lookL _ (un,ad+fi)=none at n2';have hlo:lo≤rawV (FC.fea ⟨at_,bits,co,fi,cu,ho,lo,hi,sn,fA,fn,fc⟩ wh) L (toldT l ch at_ ho):=hr0
         have hhi:rawV (FC.fea ⟨at_,bits,co,fi,cu,ho,lo,hi,sn,fA,fn,fc⟩ wh) L (toldT l ch at_ ho)≤hi:=hr1
         have hcase:(idxOf (hitA ch at_) l=-1∧toldT l ch at_ ho=sR (ho:Rat))∨∃ q:Nat,idxOf (hitA ch at_) l=q∧∃ hq:q<l.length,toldT l ch at_ ho=l[q].lev:=by
          have h1:=q03l (l:=l) (ch:=ch) (at_:=at_) (ho:=ho)
          have h2:=qb9 (p:=hitA ch at_) l
          by_cases h3:idxOf (hitA ch at_) l<0
          ·exact .inl ⟨by omega,h1.1 h3⟩
          ·obtain ⟨q,hq⟩:∃ q:Nat,idxOf (hitA ch at_) l=q:=⟨(idxOf (hitA ch at_) l).toNat,by omega⟩
           exact .inr ⟨q,hq,h1.2 q hq⟩
         have HWh:=Lib.hid (fun w=>qrj (x:=ho) hho.1 hho.2 w)
         have HFW:=Lib.hid hfw;obtain ⟨r0,r1,r2,r3,r4,r5,r6,r7,r8,r9⟩:=hkf;have kk:=fun (q:Nat)=>HB4.out.cell (p:=⟨b2,q,none⟩) hbl2
         replace r0:=(kk _).trans r0;replace r1:=(kk _).trans r1;replace r2:=(kk _).trans r2;replace r3:=(kk _).trans r3;replace r4:=(kk _).trans r4;replace r5:=(kk _).trans r5;replace r6:=(kk _).trans r6;replace r7:=(kk _).trans r7;replace r8:=(kk _).trans r8;replace r9:=(kk _).trans r9;dsimp only at r0 r1 r2 r3 r4 r5 r6 r7 r8 r9 hc1 hc2 hc3 hr2 hr3 hb816;have htop:topV (FC.fea ⟨at_,bits,co,fi,cu,ho,lo,hi,sn,fA,fn,fc⟩ wh).bits=if bits=8 then 255 else 65535:=rfl
         change bits=8∨bits=16 at hb816;change 0≤ad-1+co at hc1;change ad-1+co<512 at hc2;change bits=16→0≤ad-1+fi∧ad-1+fi<512∧fi≠co at hc3;clear kk hpush hnew hal hco1 hfi1 hhome hrawE hbV hbE hr0 hr1 hr2 hr3 htop;have HPush2:=Lib.hid hpush2;clear hpush2;generalize knA L l PL (X.take i) ++ knX L l ⟨ch,pt,pr,un,ad,ph,cb⟩ (yl.take j)=K at *;generalize rawV (FC.fea ⟨at_,bits,co,fi,cu,ho,lo,hi,sn,fA,fn,fc⟩ wh) L (toldT l ch at_ ho)=raw at *
         generalize toldT l ch at_ ho=TT at *
         have HRaw:=Lib.hid (show ∀ w',FW w' ⟨at_,bits,co,fi,cu,ho,lo,hi,sn,fA,fn,fc⟩ wh→InN w' A0 n0 H L→Tab w'→Rng w'→Calls prog 46 #[.agg #[.int .i64 at_,.int .i64 bits,.int .i64 co,.int .i64 fi,.int .i64 cu,.int .i64 ho,.int .i64 lo,.int .i64 hi,.bool sn,.slice fA fn fc],.slice A0 n0 d0,.string TT] w' fun e w''=>e=.returned (.tuple #[.int .i64 raw,.int .i64 0])∧Below w'.heap.size w' w'' from HRaw0.out)
         have HBy:=Lib.hid (show ∀ w',FW w' ⟨at_,bits,co,fi,cu,ho,lo,hi,sn,fA,fn,fc⟩ wh→Calls prog 47 #[.agg #[.int .i64 at_,.int .i64 bits,.int .i64 co,.int .i64 fi,.int .i64 cu,.int .i64 ho,.int .i64 lo,.int .i64 hi,.bool sn,.slice fA fn fc],.int .i64 raw] w' fun e w''=>∃ A2 n2 c2,e=.returned (.tuple #[.slice A2 n2 c2,.int .i64 0])∧Is w'' A2 n2 (if bits=8 then [raw] else [raw / 256,raw % 256])∧Below w'.heap.size w' w'' from HBy0.out)
         obtain ⟨W2,hW2⟩:∃ W2,W2=V4.alloc (.cells #[.int .i64 at_,.int .i64 bits,.int .i64 co,.int .i64 fi,.int .i64 cu,.int .i64 ho,.int .i64 lo,.int .i64 hi,.bool sn,.slice fA fn fc] 90):=⟨_,rfl⟩
         have hb2:Below V4.heap.size V4 W2:=by rw [hW2];exact (Below.refl _ _).alloc (Nat.le_refl _) _
         have hF2:Cells W2 V4.heap.size [.int .i64 at_,.int .i64 bits,.int .i64 co,.int .i64 fi,.int .i64 cu,.int .i64 ho,.int .i64 lo,.int .i64 hi,.bool sn,.slice fA fn fc]:=by rw [hW2];exact Cells.fresh V4 [.int .i64 at_,.int .i64 bits,.int .i64 co,.int .i64 fi,.int .i64 cu,.int .i64 ho,.int .i64 lo,.int .i64 hi,.bool sn,.slice fA fn fc] _
         have hX2:=HX4.out.below hb2 HX4.out.1;have HF2:=Lib.hid hF2;have HX2:=Lib.hid hX2;have HB2:=Lib.hid (HB4.out.trans (hb2.mono HB4.out.size));have HR2:=Lib.hid (HR4.out.trans (hb2.mono HR4.out.size));have HM2:=Lib.hid (HM4.out.keep (hb2.block _ HM4.out.lt));have HW2:=Lib.hid hW2;have HVw:=Lib.hid (fun (w':World) (h:Below W2.heap.size W2 w')=>HB2.out.trans (h.mono HB2.out.size))
         have HIx:=Lib.hid (q03a 44 #[.pointer (some ⟨V3.heap.size,0,none⟩),.pointer (some ⟨V4.heap.size,0,none⟩)] (hitA ch at_) A l.length c l W2 (enters_of func44 (by kernel_rfl) rfl) (HL.out.below HB2.out) (by have:=HN.out;omega) (fun q hq w' h=>by
          have hx:=HX2.out.below h HX2.out.1;have hf:=HF2.out.below h HF2.out.1;exact q03k l[q] V3.heap.size V4.heap.size ch at_ w' (hx.at_ (j:=0) rfl) (hf.at_ (j:=0) rfl) hx.1 hf.1))
         have HC3:=Lib.hid (And.intro hc1 (And.intro hc2 hc3));have HNn:=Lib.hid (And.intro n1' n2');have HLH:=Lib.hid (And.intro hlo hhi);have m4:b2<V4.heap.size:=Nat.lt_of_lt_of_le hbl2 HB4.out.size;clear HRaw0 HBy0 hW2 hb2 hF2 hX2 hc1 hc2 hc3 n1' n2' hlo hhi hfw hho
         rcases hcase with ⟨e1,e2⟩ | ⟨q,e1,hq,e2⟩
         case' inl =>
          rw [e1] at HIx;rw [e2] at HRaw;go_wp2_with fail;rw [← HW2.out];refine HIx.out.mono ?_;rintro e wk ⟨rfl,hB⟩;have f5:=(HF2.out.below hB HF2.out.1).at_ (j:=5) rfl
          clear r0 r1 r2 r3 r4 r5 r6 r7 r8 r9;go_wp2_with fail;refine uq_ (HWh.out _) hB ?_;clear hB f5;intro wk hB;have f0:=(HF2.out.below hB HF2.out.1).at_ (j:=0) rfl
          have f1:=(HF2.out.below hB HF2.out.1).at_ (j:=1) rfl
          have f2:=(HF2.out.below hB HF2.out.1).at_ (j:=2) rfl
          have f3:=(HF2.out.below hB HF2.out.1).at_ (j:=3) rfl
          have f4:=(HF2.out.below hB HF2.out.1).at_ (j:=4) rfl
          have f5:=(HF2.out.below hB HF2.out.1).at_ (j:=5) rfl
          have f6:=(HF2.out.below hB HF2.out.1).at_ (j:=6) rfl
          have f7:=(HF2.out.below hB HF2.out.1).at_ (j:=7) rfl
          have f8:=(HF2.out.below hB HF2.out.1).at_ (j:=8) rfl
          have f9:=(HF2.out.below hB HF2.out.1).at_ (j:=9) rfl
          obtain ⟨⟨c0,c1,c2⟩,-⟩:=HK2.out _ (HVw.out _ hB);go_wp2_with fail
         case' inr =>
          rw [e1] at HIx;obtain ⟨b3,o3,rfl,hbl3,hca⟩:=am_at HL.out (by omega)
          have t2:=(hca q hq).2.2;rw [e2] at HRaw;have Ht2:=Lib.hid (And.intro hbl3 t2);have q2:(0:Int)≤(q:Int):=by omega
          have q3:(q:Int)<(l.length:Int):=by omega
          clear hca t2 hbl3;go_wp2_with fail;rw [← HW2.out];refine HIx.out.mono ?_;rintro e wk ⟨rfl,hB⟩;have f5:=(HF2.out.below hB HF2.out.1).at_ (j:=5) rfl
          clear r0 r1 r2 r3 r4 r5 r6 r7 r8 r9;go_wp2_with fail;refine uq_ (HWh.out _) hB ?_;clear hB f5;intro wk hB;have a2:=((HVw.out _ hB).cell (p:=⟨b3,o3+q*3+2,none⟩) Ht2.out.1).trans Ht2.out.2;have m5:b3<wk.heap.size:=Nat.lt_of_lt_of_le Ht2.out.1 (HVw.out _ hB).size;have f0:=(HF2.out.below hB HF2.out.1).at_ (j:=0) rfl
          have f1:=(HF2.out.below hB HF2.out.1).at_ (j:=1) rfl
          have f2:=(HF2.out.below hB HF2.out.1).at_ (j:=2) rfl
          have f3:=(HF2.out.below hB HF2.out.1).at_ (j:=3) rfl
          have f4:=(HF2.out.below hB HF2.out.1).at_ (j:=4) rfl
          have f5:=(HF2.out.below hB HF2.out.1).at_ (j:=5) rfl
          have f6:=(HF2.out.below hB HF2.out.1).at_ (j:=6) rfl
          have f7:=(HF2.out.below hB HF2.out.1).at_ (j:=7) rfl
          have f8:=(HF2.out.below hB HF2.out.1).at_ (j:=8) rfl
          have f9:=(HF2.out.below hB HF2.out.1).at_ (j:=9) rfl
          obtain ⟨⟨c0,c1,c2⟩,-⟩:=HK2.out _ (HVw.out _ hB);go_wp2_with fail
         all_goals
          refine uq_ (HRaw.out _ (HFW.out.below (HVw.out _ hB)) (HIN.out.below (HVw.out _ hB)) (HT.out.below (HVw.out _ hB)) (HRg.out.below (HVw.out _ hB))) hB ?_;clear hB c0 c1 c2 f0 f1 f2 f3 f4 f5 f6 f7 f8 f9;intro wk hB;have f0:=(HF2.out.below hB HF2.out.1).at_ (j:=0) rfl
          have f1:=(HF2.out.below hB HF2.out.1).at_ (j:=1) rfl
          have f2:=(HF2.out.below hB HF2.out.1).at_ (j:=2) rfl
          have f3:=(HF2.out.below hB HF2.out.1).at_ (j:=3) rfl
          have f4:=(HF2.out.below hB HF2.out.1).at_ (j:=4) rfl
          have f5:=(HF2.out.below hB HF2.out.1).at_ (j:=5) rfl
          have f6:=(HF2.out.below hB HF2.out.1).at_ (j:=6) rfl
          have f7:=(HF2.out.below hB HF2.out.1).at_ (j:=7) rfl
          have f8:=(HF2.out.below hB HF2.out.1).at_ (j:=8) rfl
          have f9:=(HF2.out.below hB HF2.out.1).at_ (j:=9) rfl
          go_wp2_with fail;refine (HBy.out _ (HFW.out.below (HVw.out _ hB))).mono ?_;rintro e wk ⟨A2',n2',c2',rfl,hIs,hb⟩;replace hB:=hB.trans (hb.mono hB.size);clear hb f0 f1 f2 f3 f4 f5 f6 f7 f8 f9;have g1:¬ raw<lo:=by have:=HLH.out.1;omega
          have g2:¬ hi<raw:=by have:=HLH.out.2;omega
          have f0:=(HF2.out.below hB HF2.out.1).at_ (j:=0) rfl
          have f1:=(HF2.out.below hB HF2.out.1).at_ (j:=1) rfl
          have f2:=(HF2.out.below hB HF2.out.1).at_ (j:=2) rfl
          have f3:=(HF2.out.below hB HF2.out.1).at_ (j:=3) rfl
          have f4:=(HF2.out.below hB HF2.out.1).at_ (j:=4) rfl
          have f5:=(HF2.out.below hB HF2.out.1).at_ (j:=5) rfl
          have f6:=(HF2.out.below hB HF2.out.1).at_ (j:=6) rfl
          have f7:=(HF2.out.below hB HF2.out.1).at_ (j:=7) rfl
          have f8:=(HF2.out.below hB HF2.out.1).at_ (j:=8) rfl
          have f9:=(HF2.out.below hB HF2.out.1).at_ (j:=9) rfl
          obtain ⟨b4,o4,rfl,hb4,hs0⟩:=hIs.at1 (k:=0) (by by_cases h:bits=8 <;> simp [h])
          have y0:=hs0;have hnx:V3.heap.size≠w5.heap.size:=by have:=HMa.out.lt;omega
          have hnf:V4.heap.size≠w5.heap.size:=by have:=HM4.out.lt;omega
          rcases hb816 with rfl | rfl
          ·rw [if_pos rfl] at hIs
           have hn2:=hIs.1;obtain rfl:n2' = 1:=by simpa using hn2
           clear hn2;have hpp:=HPush2.out;rw [if_neg (by decide)] at hpp
           have HPp:=Lib.hid hpp;clear hpp;go_wp2_with fail;have y1:=((q18 (Below.refl wk.heap.size wk) 1).cell (p:=⟨b4,o4,none⟩) hb4).trans (show wk.cell? ⟨b4,o4,none⟩=some (.int .i64 raw) by simpa using y0)
           have w3:IntKind.i64.wrap (ad+co)=ad+co:=IntWalk.i64_in _ (by have:=HC3.out;omega)
           have hm0:=HM2.out.keep ((hB.block _ HM2.out.lt).trans rfl);replace hB:=q18 hB 1;have x3:=(HX2.out.below hB HX2.out.1).at_ (j:=3) rfl
           have x4:=(HX2.out.below hB HX2.out.1).at_ (j:=4) rfl
           have d2':=(HF2.out.below hB HF2.out.1).at_ (j:=2) rfl
           clear f0 f1 f2 f3 f4 f5 f6 f7 f8 f9 g1 g2 y0 hs0;refine wp_region_held_drew (S:=fun w'=>w'.cell? ⟨V3.heap.size,3,none⟩=some (.int .i64 un)∧w'.cell? ⟨V3.heap.size,4,none⟩=some (.int .i64 ad)∧w'.cell? ⟨V4.heap.size,2,none⟩=some (.int .i64 co)∧w'.cell? ⟨b4,o4,none⟩=some (.int .i64 raw)) (by kernel_rfl) (by first | exact ⟨x3,x4,d2',y1⟩) (fun hHeld=>?_)
           repeat
            refine tk (i:=?_) (oi:=?_) (v:=?_) ?_ ?_ ?_ ?_ ?_ ?_ ?_ ?_ ?_
            rotate_left 3
            ·first | exact Eq.refl 0 | exact Eq.refl 1 | exact Eq.refl 2 | exact Eq.refl 3 | exact Eq.refl 4 | exact Eq.refl 5 | exact Eq.refl 6 | exact Eq.refl 7 | exact Eq.refl 8 | exact Eq.refl 9 | exact Eq.refl 10 | exact Eq.refl 11
            ·simp only [List.getElem?_toArray,List.getElem?_cons_succ,List.getElem?_cons_zero];rfl
            ·kernel_rfl
            ·kernel_rfl
            ·kernel_rfl
            rotate_left 1
            ·first | (refine Or.inl ⟨?_,?_⟩;(· rfl);intro w hSw;(try dsimp only at hSw);go_simp;try with_reducible rfl) | exact Or.inr ⟨rfl,rfl⟩
            ·assumption
            rotate_left 1
            ·exact fun _ _ _ h=>h
            simp only [Act.put,List.setIfInBounds_toArray,List.set_cons_zero,List.set_cons_succ]
           refine wpAnyH_ready (rs:=[12]) (by kernel_rfl) (by simp) ?_
           refine AllReadyH.cons rfl (fun Kn hK=>?_) AllReadyH.nil
           refine q03h rfl _ _ _ _ rfl _ _ underlying83 pK kTwo w5.heap.size K (un,ad+co) (.int .i64 raw) (by simp [Act.eval]) (by simp [Act.eval]) (by simp [Act.eval]) hm0 HNn.out.1 ?_
           intro w8 hm8 hg8;have hR8:=(HR2.out.trans (hB.mono HR2.out.size)).grown hg8 (HR2.out.trans (hB.mono HR2.out.size)).size (fun q e=>by cases e;exact Nat.le_refl _)
           have hX8:=(HX2.out.below hB HX2.out.1).grown hg8 hnx;have hF8:=(HF2.out.below hB HF2.out.1).grown hg8 hnf;have y8:=(World.cell?_of_block (a:=⟨b4,o4,none⟩) (hg8.block b4 hb4 (by simpa using map_ne hm0 y1))).trans y1
           refine hK.out _ _ ⟨hX8.at_ (j:=3) rfl,hX8.at_ (j:=4) rfl,hF8.at_ (j:=2) rfl,y8⟩ (fun hHeld=>?_)
           clear hK Kn
           try simp only [Act.put,List.setIfInBounds_toArray]
           refine wpAnyH_done (by kernel_rfl) ?_ _
           have f1:=hF8.at_ (j:=1) rfl
           have HX8:=Lib.hid hX8;have HR8:=Lib.hid hR8;have HM8:=Lib.hid hm8;clear hX8 hF8 hR8 hm8 hm0 hg8 hB y8 y1 x3 x4 d2';go_wp2_with fail
           go_roundw
           case rel=>exact ⟨j+1,hlt4,by go_num,by rw [HPp.out];exact HM8.out,HR8.out,HX8.out⟩
           case measure=>simp [intOf];omega
          ·rw [if_neg (by decide)] at hIs
           have hn2:=hIs.1;obtain rfl:n2' = 2:=by simpa using hn2
           clear hn2;obtain ⟨b5,o5,e5,-,hs1⟩:=hIs.at1 (k:=1) (by simp)
           injection e5 with e5
           injection e5 with e6 e7
           subst e6 e7;have hpp:=HPush2.out;rw [if_pos rfl] at hpp;have HPp:=Lib.hid hpp;clear hpp;generalize raw / 256=q1 at *;generalize raw % 256=q2 at *;go_wp2_with fail;have y1:=((q18 (Below.refl wk.heap.size wk) 1).cell (p:=⟨b4,o4,none⟩) hb4).trans (show wk.cell? ⟨b4,o4,none⟩=some (.int .i64 (q1)) by simpa using y0)
           have y2:=((q18 (Below.refl wk.heap.size wk) 1).cell (p:=⟨b4,o4+1,none⟩) hb4).trans (show wk.cell? ⟨b4,o4+1,none⟩=some (.int .i64 (q2)) by simpa using hs1)
           have w3:IntKind.i64.wrap (ad+co)=ad+co:=IntWalk.i64_in _ (by have:=HC3.out;omega)
           have w4:IntKind.i64.wrap (ad+fi)=ad+fi:=IntWalk.i64_in _ (by have:=HC3.out.2.2 trivial;omega)
           have hm0:=HM2.out.keep ((hB.block _ HM2.out.lt).trans rfl);replace hB:=q18 hB 1;have x3:=(HX2.out.below hB HX2.out.1).at_ (j:=3) rfl
           have x4:=(HX2.out.below hB HX2.out.1).at_ (j:=4) rfl
           have d2':=(HF2.out.below hB HF2.out.1).at_ (j:=2) rfl
           clear f0 f1 f2 f3 f4 f5 f6 f7 f8 f9 g1 g2 y0 hs0 hs1;refine wp_region_held_drew (S:=fun w'=>w'.cell? ⟨V3.heap.size,3,none⟩=some (.int .i64 un)∧w'.cell? ⟨V3.heap.size,4,none⟩=some (.int .i64 ad)∧w'.cell? ⟨V4.heap.size,2,none⟩=some (.int .i64 co)∧w'.cell? ⟨b4,o4,none⟩=some (.int .i64 q1)) (by kernel_rfl) (by first | exact ⟨x3,x4,d2',y1⟩) (fun hHeld=>?_)
           repeat
            refine tk (i:=?_) (oi:=?_) (v:=?_) ?_ ?_ ?_ ?_ ?_ ?_ ?_ ?_ ?_
            rotate_left 3
            ·first | exact Eq.refl 0 | exact Eq.refl 1 | exact Eq.refl 2 | exact Eq.refl 3 | exact Eq.refl 4 | exact Eq.refl 5 | exact Eq.refl 6 | exact Eq.refl 7 | exact Eq.refl 8 | exact Eq.refl 9 | exact Eq.refl 10 | exact Eq.refl 11
            ·simp only [List.getElem?_toArray,List.getElem?_cons_succ,List.getElem?_cons_zero];rfl
            ·kernel_rfl
            ·kernel_rfl
            ·kernel_rfl
            rotate_left 1
            ·first | (refine Or.inl ⟨?_,?_⟩;(· rfl);intro w hSw;(try dsimp only at hSw);go_simp;try with_reducible rfl) | exact Or.inr ⟨rfl,rfl⟩
            ·assumption
            rotate_left 1
            ·exact fun _ _ _ h=>h
            simp only [Act.put,List.setIfInBounds_toArray,List.set_cons_zero,List.set_cons_succ]
           refine wpAnyH_ready (rs:=[12]) (by kernel_rfl) (by simp) ?_
           refine AllReadyH.cons rfl (fun Kn hK=>?_) AllReadyH.nil
           refine q03h rfl _ _ _ _ rfl _ _ underlying83 pK kTwo w5.heap.size K (un,ad+co) (.int .i64 (q1)) (by simp [Act.eval]) (by simp [Act.eval]) (by simp [Act.eval]) hm0 HNn.out.1 ?_
           intro w8 hm8 hg8;have hR8:=(HR2.out.trans (hB.mono HR2.out.size)).grown hg8 (HR2.out.trans (hB.mono HR2.out.size)).size (fun q e=>by cases e;exact Nat.le_refl _)
           have hX8:=(HX2.out.below hB HX2.out.1).grown hg8 hnx;have hF8:=(HF2.out.below hB HF2.out.1).grown hg8 hnf;have y8:=(World.cell?_of_block (a:=⟨b4,o4,none⟩) (hg8.block b4 hb4 (by simpa using map_ne hm0 y1))).trans y1
           refine hK.out _ _ ⟨hX8.at_ (j:=3) rfl,hX8.at_ (j:=4) rfl,hF8.at_ (j:=2) rfl,y8⟩ (fun hHeld=>?_)
           clear hK Kn
           try simp only [Act.put,List.setIfInBounds_toArray]
           refine wpAnyH_done (by kernel_rfl) ?_ _
           have f1:=hF8.at_ (j:=1) rfl
           have y9:=(World.cell?_of_block (a:=⟨b4,o4+1,none⟩) (hg8.block b4 hb4 (by simpa using map_ne hm0 y1))).trans y2
           have hb8:b4<w8.heap.size:=Nat.lt_of_lt_of_le hb4 hg8.size;have HX8:=Lib.hid hX8;have HF8:=Lib.hid hF8;have HR8:=Lib.hid hR8;have HM8:=Lib.hid hm8;clear hX8 hF8 hR8 hm8 hm0 hg8 hB y8 y1 y2 x3 x4 d2';go_wp2_with fail;have hm1:=HM8.out.keep (w':=w8.drewN 1) rfl;have hbd:=q18 (Below.refl w8.heap.size w8) 1;have x3:=(HX8.out.below hbd HX8.out.1).at_ (j:=3) rfl
           have x4:=(HX8.out.below hbd HX8.out.1).at_ (j:=4) rfl
           have d3':=(HF8.out.below hbd HF8.out.1).at_ (j:=3) rfl
           have y3:=(hbd.cell (p:=⟨b4,o4+1,none⟩) hb8).trans y9;have n3:lookL (K ++ [((un,ad+co),.int .i64 q1)]) (un,ad+fi)=none:=q03e (K:=K) (x:=⟨ch,pt,pr,un,ad,ph,cb⟩) (f:=FC.fea ⟨at_,16,co,fi,cu,ho,lo,hi,sn,fA,fn,fc⟩ wh) (v:=.int .i64 q1) (HNn.out.2 trivial) (HC3.out.2.2 trivial).2.2
           clear f1 y9;refine wp_region_held_drew (S:=fun w'=>w'.cell? ⟨V3.heap.size,3,none⟩=some (.int .i64 un)∧w'.cell? ⟨V3.heap.size,4,none⟩=some (.int .i64 ad)∧w'.cell? ⟨V4.heap.size,3,none⟩=some (.int .i64 fi)∧w'.cell? ⟨b4,o4+1,none⟩=some (.int .i64 q2)) (by kernel_rfl) (by first | exact ⟨x3,x4,d3',y3⟩) (fun hHeld=>?_)
           repeat
            refine tk (i:=?_) (oi:=?_) (v:=?_) ?_ ?_ ?_ ?_ ?_ ?_ ?_ ?_ ?_
            rotate_left 3
            ·first | exact Eq.refl 0 | exact Eq.refl 1 | exact Eq.refl 2 | exact Eq.refl 3 | exact Eq.refl 4 | exact Eq.refl 5 | exact Eq.refl 6 | exact Eq.refl 7 | exact Eq.refl 8 | exact Eq.refl 9 | exact Eq.refl 10 | exact Eq.refl 11
            ·simp only [List.getElem?_toArray,List.getElem?_cons_succ,List.getElem?_cons_zero];rfl
            ·kernel_rfl
            ·kernel_rfl
            ·kernel_rfl
            rotate_left 1
            ·first | (refine Or.inl ⟨?_,?_⟩;(· rfl);intro w hSw;(try dsimp only at hSw);go_simp;try with_reducible rfl) | exact Or.inr ⟨rfl,rfl⟩
            ·assumption
            rotate_left 1
            ·exact fun _ _ _ h=>h
            simp only [Act.put,List.setIfInBounds_toArray,List.set_cons_zero,List.set_cons_succ]
           refine wpAnyH_ready (rs:=[12]) (by kernel_rfl) (by simp) ?_
           refine AllReadyH.cons rfl (fun Kn hK=>?_) AllReadyH.nil
           refine q03h rfl _ _ _ _ rfl _ _ underlying83 pK kTwo w5.heap.size (K ++ [((un,ad+co),Value.int .i64 q1)]) (un,ad+fi) (Value.int .i64 q2) (by simp [Act.eval]) (by simp [Act.eval]) (by simp [Act.eval]) hm1 n3 ?_
           intro w9 hm9 hg9;have hR9:=(HR8.out.trans (hbd.mono HR8.out.size)).grown hg9 (HR8.out.trans (hbd.mono HR8.out.size)).size (fun q e=>by cases e;exact Nat.le_refl _)
           have hX9:=(HX8.out.below hbd HX8.out.1).grown hg9 hnx;have hF9:=(HF8.out.below hbd HF8.out.1).grown hg9 hnf;have y4:=(World.cell?_of_block (a:=⟨b4,o4+1,none⟩) (hg9.block b4 hb8 (by simpa using map_ne hm1 y3))).trans y3
           refine hK.out _ _ ⟨hX9.at_ (j:=3) rfl,hX9.at_ (j:=4) rfl,hF9.at_ (j:=3) rfl,y4⟩ (fun hHeld=>?_)
           clear hK Kn
           try simp only [Act.put,List.setIfInBounds_toArray]
           refine wpAnyH_done (by kernel_rfl) ?_ _
           have HX9:=Lib.hid hX9;have HR9:=Lib.hid hR9;have HM9:=Lib.hid hm9;clear hX9 hF9 hR9 hm9 hm1 hg9 hbd y4 y3 x3 x4 d3' n3;go_wp2_with fail
           go_roundw
           case rel=>exact ⟨j+1,hlt4,by go_num,by rw [HPp.out];simpa using HM9.out,HR9.out,HX9.out⟩
           case measure=>simp [intOf];omega
theorem q03i (w:World) (g:RG) (hg:g.good w) (A:Option Addr) (n c:Nat) (l:List Am) (hl:shAm.In w A n l) (_:∀ g ∈ l,g.good) (_:n≤maxLen) (hby:n*32≤reachBytes) (hL:Laid w) :
  Calls prog 9 #[.agg g.cs.toArray,.slice A n c] w fun e w'=>e=.returned (.bool true)∧Below w.heap.size w w':=by
 obtain ⟨H,L,PL,X,hg⟩:=hg;exact q03j w g H L PL X hg A n c l hl (by unfold reachBytes at hby;omega) hL.1 hL.2
end

end Go.Proofs.YtbfikenbgfnfiaaGreatDoor
