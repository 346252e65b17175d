/- Lemmas. -/
import Derived.Test.YtbfikenbgfnfiaaGreatDoorMUniF
import Derived.Test.YtbfikenbgfnfiaaGreatDoorMUniG
namespace Go.Proofs.YtbfikenbgfnfiaaGreatDoor
set_option maxHeartbeats 32000000
open _root_.Go.Proofs.Tryz

section
open Go.RowKit
theorem qdg (A0:Option Addr) (n0 d0:Nat) (A1:Option Addr) (n1 d1:Nat) (A2:Option Addr) (n2 d2:Nat) (w:World) :
  Calls prog 12 #[.agg #[.slice A0 n0 d0,.slice A1 n1 d1,.slice A2 n2 d2]] w fun e w'=>e=.returned (.agg #[.slice A0 n0 d0,.slice A1 n1 d1,.slice A2 n2 d2])∧Below w.heap.size w w':=by
 go_enter func12,ntmps12
 go_wp2_with fail
 (try simp only [Exit.inBlock,Exit.then])
 refine bodyPost_ret (v:=.agg #[.slice A0 n0 d0,.slice A1 n1 d1,.slice A2 n2 d2]) ?_ rfl ⟨rfl,((Below.refl _ w).alloc (Nat.le_refl _) _).alloc (by simp) _⟩
 rw [qlt rfl]
 go_simp
end

section
open Go.RowKit
def rgtB (L:List (List PT)) (PL:List (PC × List Fea)) (X:List Fx) (l:List Am):Bool:=fewRg L PL X.length && fewAm l && decide (uniE L PL X=0) && decide (givE l=0)
theorem rgt_of {L:List (List PT)} {PL:List (PC × List Fea)} {X:List Fx} {l:List Am} (h:rgtB L PL X l=true):fewRg L PL X.length=true∧fewAm l=true∧uniE L PL X=0∧givE l=0:=by
 unfold rgtB at h;rw [Bool.and_eq_true,Bool.and_eq_true,Bool.and_eq_true] at h;exact ⟨h.1.1.1,h.1.1.2,of_decide_eq_true h.1.2,of_decide_eq_true h.2⟩
set_option maxRecDepth 100000 in
theorem qch (A0:Option Addr) (n0 d0:Nat) (A1:Option Addr) (n1 d1:Nat) (A2:Option Addr) (n2 d2:Nat) (H:List Hd) (L:List (List PT)) (PL:List (PC × List Fea)) (X:List Fx) (A:Option Addr) (n c:Nat) (l:List Am) (w:World) (hg:RG.Is w ⟨A0,n0,d0,A1,n1,d1,A2,n2,d2⟩ H L PL X) (hl:shAm.In w A n l) (hn:n≤9223372036854775806) :
  Calls prog 18 #[.agg #[.slice A0 n0 d0,.slice A1 n1 d1,.slice A2 n2 d2],.slice A n c] w fun e w'=>e=.returned (.bool (rgtB L PL X l))∧Below w.heap.size w w':=by
 obtain ⟨rfl,_⟩:=id hl;obtain ⟨⟨hl0,hm,hn0⟩,⟨hp,hpo,hnd1,hd1⟩,hx,⟨hnd2,hd2⟩,hcb⟩:=hg;dsimp only at hl0 hn0 hp hnd1 hd1 hx hnd2 hd2;obtain rfl:n2=X.length:=hx.1;have hq:rgtB L PL X l=(fewRg L PL X.length && fewAm l && decide (uniE L PL X=0) && decide (givE l=0)):=rfl;have HOw:=hj_ (fun w=>qdg A0 n0 d0 A1 n1 d1 A2 X.length d2 w)
 have HFr:=hj_ (fun w h1 h2=>qm7 A0 n0 d0 H L A1 n1 d1 PL A2 X.length d2 w h1 hn0 h2 (Nat.le_trans hnd1 hd1))
 have HFa:=hj_ (fun w h=>qm4 A l.length c l w h hn)
 have HRc:=hj_ (fun w h1 h2 h3 (hn1:n1≤9223372036854775806) (hn2:X.length≤9223372036854775806)=>ql9 A0 n0 d0 H L A1 n1 d1 PL A2 X.length d2 X w h1 hm hn0 h2 hpo hn1 hnd1 hd1 h3 hn2 hcb)
 have HAm:=hj_ (fun w h (hs:∀ a ∈ l,a.lev.size≤1000)=>qks A l.length c l w h hn hs)
 have hn1l:n1=PL.length:=by have:=hp.1.1;simpa using this
 have HRL:=hj_ (And.intro hl0 (And.intro hp hx));have HN1:=hj_ hn1l;generalize rgtB L PL X l=Q at *;generalize uniE L PL X=UE at *;generalize givE l=GE at *;obtain ⟨W,hW⟩:∃ W,W=(w.alloc (.cells #[.slice A0 n0 d0,.slice A1 n1 d1,.slice A2 X.length d2] 26)):=⟨_,rfl⟩;obtain ⟨hB0,hK0⟩:=box1 #[.slice A0 n0 d0,.slice A1 n1 d1,.slice A2 X.length d2] 26 w W hW;have hK:∀ w',Below W.heap.size W w'→w'.cell? ⟨w.heap.size,0,none⟩=some (.slice A0 n0 d0)∧w'.cell? ⟨w.heap.size,1,none⟩=some (.slice A1 n1 d1)∧w'.cell? ⟨w.heap.size,2,none⟩=some (.slice A2 X.length d2):=fun w' h=>⟨(hK0 w' h) 0 _ rfl,(hK0 w' h) 1 _ rfl,(hK0 w' h) 2 _ rfl⟩
 have HK:=hj_ hK;have HW:=hj_ hW;have HB0:=hj_ hB0;have hB:=Below.refl W.heap.size W;obtain ⟨c0,c1,c2⟩:=hK W hB;clear hW hB0 hK hK0;have HRLb:=hj_ (fun (w':World) (h:Below W.heap.size W w')=>show InN w' A0 n0 H L∧InR w' A1 n1 PL∧shX.In w' A2 X.length X from ⟨(HRL.out.1.below HB0.out).below h,(HRL.out.2.1.below HB0.out).below h,(HRL.out.2.2.below HB0.out).below h⟩)
 have HL:=hj_ (hl.below HB0.out);clear hl hn hl0 hm hn0 hp hpo hnd1 hd1 hx hnd2 hd2 hcb hn1l
 cases hfr:fewRg L PL X.length with
 | false =>
  rw [hfr] at HFr hq;simp only [Bool.false_and] at hq;subst hq;clear hfr
  go_enter func18,ntmps18
  go_wp2_with fail;rw [← HW.out];refine uq_ (HOw.out _) hB ?_;clear hB;intro wk hB;obtain ⟨c0,c1,c2⟩:=HK.out _ hB;go_wp2_with fail;refine uq_ (HFr.out _ (HRLb.out _ hB).1 (HRLb.out _ hB).2.1) hB ?_;clear hB;intro wk hB;go_wp2_with fail;go_ret;exact ⟨rfl,ht_ HB0.out hB⟩
 | true =>
  have hfw:=q7x hfr;have hn1:n1≤40:=by rw [HN1.out];exact hfw.1
  have hn2:X.length≤70:=hfw.2.1;have HRLc:=hj_ (fun (w':World) (h:Below W.heap.size W w')=>show InN w' A0 n0 H L∧InPs w' A1 n1 PL∧shX.In w' A2 X.length X from ⟨(HRLb.out _ h).1,(HRLb.out _ h).2.1.few hfr,(HRLb.out _ h).2.2⟩)
  replace HRc:=hj_ (fun w (h:InN w A0 n0 H L∧InPs w A1 n1 PL∧shX.In w A2 X.length X)=>HRc.out w h.1 h.2.1 h.2.2 (by omega) (by omega))
  rw [hfr] at HFr hq;rw [Bool.true_and] at hq;clear hfr hfw hn1 hn2
  cases hfa:fewAm l with
  | false =>
   rw [hfa] at HFa hq;simp only [Bool.false_and] at hq;subst hq;clear hfa
   go_enter func18,ntmps18
   go_wp2_with fail;rw [← HW.out];refine uq_ (HOw.out _) hB ?_;clear hB;intro wk hB;obtain ⟨c0,c1,c2⟩:=HK.out _ hB;go_wp2_with fail;refine uq_ (HFr.out _ (HRLb.out _ hB).1 (HRLb.out _ hB).2.1) hB ?_;clear hB;intro wk hB;obtain ⟨c0,c1,c2⟩:=HK.out _ hB;go_wp2_with fail;refine uq_ (HFa.out _ (HL.out.below hB)) hB ?_;clear hB;intro wk hB;obtain ⟨c0,c1,c2⟩:=HK.out _ hB;go_wp2_with fail;go_ret;exact ⟨rfl,ht_ HB0.out hB⟩
  | true =>
   have hs:∀ a ∈ l,a.lev.size≤1000:=fun a h=>Nat.le_trans ((q7o hfa).2 a h) (by decide)
   replace HAm:=hj_ (fun w h=>HAm.out w h hs)
   rw [hfa] at HFa hq;rw [Bool.true_and] at hq;clear hfa hs
   by_cases hue:UE=0
   case neg =>
    rw [decide_eq_false hue,Bool.false_and] at hq;have g1:(UE == 0)=false:=by simpa using hue
    subst hq;clear hue
    go_enter func18,ntmps18
    go_wp2_with fail;rw [← HW.out];refine uq_ (HOw.out _) hB ?_;clear hB;intro wk hB;obtain ⟨c0,c1,c2⟩:=HK.out _ hB;go_wp2_with fail;refine uq_ (HFr.out _ (HRLb.out _ hB).1 (HRLb.out _ hB).2.1) hB ?_;clear hB;intro wk hB;obtain ⟨c0,c1,c2⟩:=HK.out _ hB;go_wp2_with fail;refine uq_ (HFa.out _ (HL.out.below hB)) hB ?_;clear hB;intro wk hB;obtain ⟨c0,c1,c2⟩:=HK.out _ hB;go_wp2_with fail;refine uq_ (HOw.out _) hB ?_;clear hB;intro wk hB;obtain ⟨c0,c1,c2⟩:=HK.out _ hB;go_wp2_with fail;refine uq_ (HRc.out _ (HRLc.out _ hB)) hB ?_;clear hB;intro wk hB;go_wp2_with fail;go_ret;exact ⟨rfl,ht_ HB0.out hB⟩
   case pos =>
    subst hue;rw [decide_eq_true rfl,Bool.true_and] at hq;have g2:(GE == 0)=Q:=by rw [hq,Bool.eq_iff_iff];simp
    clear hq
    go_enter func18,ntmps18
    go_wp2_with fail;rw [← HW.out];refine uq_ (HOw.out _) hB ?_;clear hB;intro wk hB;obtain ⟨c0,c1,c2⟩:=HK.out _ hB;go_wp2_with fail;refine uq_ (HFr.out _ (HRLb.out _ hB).1 (HRLb.out _ hB).2.1) hB ?_;clear hB;intro wk hB;obtain ⟨c0,c1,c2⟩:=HK.out _ hB;go_wp2_with fail;refine uq_ (HFa.out _ (HL.out.below hB)) hB ?_;clear hB;intro wk hB;obtain ⟨c0,c1,c2⟩:=HK.out _ hB;go_wp2_with fail;refine uq_ (HOw.out _) hB ?_;clear hB;intro wk hB;obtain ⟨c0,c1,c2⟩:=HK.out _ hB;go_wp2_with fail;refine uq_ (HRc.out _ (HRLc.out _ hB)) hB ?_;clear hB;intro wk hB;obtain ⟨c0,c1,c2⟩:=HK.out _ hB;go_wp2_with fail;refine uq_ (HAm.out _ (HL.out.below hB)) hB ?_;clear hB;intro wk hB;obtain ⟨c0,c1,c2⟩:=HK.out _ hB;go_wp2_with fail;go_ret;exact ⟨by first | rfl | exact ret_b (by simp [g2]),ht_ HB0.out hB⟩
end

section
open Go.RowKit
theorem qmd {l:List Fm} (h:RgL l) (hl:l.length≤8):rightE l=0:=by
 unfold rightE;rw [if_neg (by omega)]
 refine q86 fun i hi=>?_
 have h1:=h.2 _ (List.getElem_mem hi);unfold rgE;rw [qa1 hi,if_neg (by omega),if_neg (by omega),if_neg]
 rintro ⟨h2,h3⟩;rw [qa1 (by omega)] at h3
 have:=List.pairwise_iff_getElem.1 h.1 (i-1) i (by omega) hi (by omega)
 omega
theorem q9l (used:Int→Bool) (c:Int→List UInt8) (hc:∀ u,(c u).length=512):∀ n,n≤8→RgL (frmG used c n)∧∀ x ∈ frmG used c n,x.un≤(n:Int)
 | 0,_=>⟨⟨List.Pairwise.nil,fun x hx=>absurd hx (List.not_mem_nil)⟩,fun x hx=>absurd hx (List.not_mem_nil)⟩
 | n+1,h=>by
  obtain ⟨⟨h1,h2⟩,h3⟩:=q9l used c hc n (by omega)
  rw [frmG]
  cases used ((n:Int)+1) with
  | false =>
   simp only [Bool.false_eq_true,if_false,List.append_nil];exact ⟨⟨h1,h2⟩,fun x hx=>by have:=h3 x hx;omega⟩
  | true =>
   simp only [if_true];refine ⟨⟨?_,?_⟩,?_⟩
   ·rw [List.pairwise_append]
    refine ⟨h1,List.pairwise_singleton _ _,fun x hx y hy=>?_⟩
    rw [List.mem_singleton] at hy;subst hy
    have:=h3 x hx
    show x.un<(n:Int)+1
    omega
   ·intro x hx
    rcases List.mem_append.1 hx with hx | hx
    ·exact h2 x hx
    ·rw [List.mem_singleton] at hx
     subst hx;refine ⟨?_,?_,?_⟩
     ·show 1≤(n:Int)+1;omega
     ·show (n:Int)+1≤8;omega
     ·show (c ((n:Int)+1)).toArray.size=512
      rw [List.size_toArray,hc]
   ·intro x hx
    rcases List.mem_append.1 hx with hx | hx
    ·have:=h3 x hx;omega
    ·rw [List.mem_singleton] at hx
     subst hx;show (n:Int)+1≤((n+1:Nat):Int)
     omega
end

end Go.Proofs.YtbfikenbgfnfiaaGreatDoor
