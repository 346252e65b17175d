/- Lemmas. -/
import Derived.Test.YtabhjdmmfdfpeaaGreatDoorKTake
import Derived.Test.YtabhjdmmfdfpeaaGreatDoorKUniE
namespace Go.Proofs.YtabhjdmmfdfpeaaGreatDoor
set_option maxHeartbeats 32000000
set_option maxRecDepth 100000
open _root_.Go.Proofs.Tryz
open Go.RowKit
variable {L:List (List PT)} {PL:List (PC × List Fea)} {fuel k n:Nat} {A:Option Addr} {v:Value} {w w':World}
section
open Go.ChangeShapes Go.WideShapes Go.ChangeAt Go.RowKit Go.Deep
section
variable {H:Type} {enc:TypeId × Value→H} {w:World} {base:Nat} {spare:Nat→Bool} {held:Bool}
end
end
def alE (P:List PC) (x:Fx):Int :=
 if qkt x=false then 2
 else if x.cb.size≠0∧nmB x.cb=false then 8
 else if pcF P x.pr=none then 6
 else if footV P x.pr<1∨513-x.ad<footV P x.pr then 2 else 0
theorem fxE_al (P:List PC) (l:List Fx) (i:Nat):fxE P l i=if alE P (l.getD i fx0)≠0 then alE P (l.getD i fx0) else if (l.take i).any (sameP (l.getD i fx0)) then 7 else if (l.take i).any (overB P (l.getD i fx0)) then 10 else 0:=by
 unfold fxE alE
 by_cases h1:qkt (l.getD i fx0)=false
 ·rw [if_pos h1,if_pos h1,if_pos d_]
 rw [if_neg h1,if_neg h1]
 by_cases h2:(l.getD i fx0).cb.size≠0∧nmB (l.getD i fx0).cb=false
 ·rw [if_pos h2,if_pos h2,if_pos d_]
 rw [if_neg h2,if_neg h2]
 by_cases h3:pcF P (l.getD i fx0).pr=none
 ·rw [if_pos h3,if_pos h3,if_pos d_]
 rw [if_neg h3,if_neg h3]
 by_cases h4:footV P (l.getD i fx0).pr<1∨513-(l.getD i fx0).ad<footV P (l.getD i fx0).pr
 ·rw [if_pos h4,if_pos h4,if_pos d_]
 rw [if_neg h4,if_neg h4,if_neg (show ¬ (0:Int)≠0 by decide)]
theorem al_ok {P:List PC} {x:Fx} (h:alE P x=0):qkt x=true∧1≤footV P x.pr∧x.ad+footV P x.pr≤513∧∃ p,pcF P x.pr=some p:=by
 unfold alE at h
 by_cases h1:qkt x=false
 ·rw [if_pos h1] at h;cases h
 rw [if_neg h1] at h
 by_cases h2:x.cb.size≠0∧nmB x.cb=false
 ·rw [if_pos h2] at h;cases h
 rw [if_neg h2] at h
 by_cases h3:pcF P x.pr=none
 ·rw [if_pos h3] at h;cases h
 rw [if_neg h3] at h
 by_cases h4:footV P x.pr<1∨513-x.ad<footV P x.pr
 ·rw [if_pos h4] at h;cases h
 exact ⟨by simpa using h1,o_,o_,Option.ne_none_iff_exists'.1 h3⟩
theorem qkr (A:Option Addr) (n c:Nat) (P:List PC) (x:Fx) (w:World) (hl:shPr.In w A n P) (hn:n≤9223372036854775806) (hcb:x.cb.size≤9223372036854775807) :
  Rt 115 #[.slice A n c,x.val] w (.int .i64 (alE P x)):=by
 obtain ⟨rfl,_⟩:=id hl;have hA:alE P x=if qkt x=false then 2 else if x.cb.size≠0∧nmB x.cb=false then 8 else if pcF P x.pr=none then 6 else if footV P x.pr<1∨513-x.ad<footV P x.pr then 2 else 0:=rfl
 have HP:=hj_ (fun w' hl=>qna A P.length c P x.pr w' hl hn)
 have HRg:=hj_ (fun w'=>qng x w')
 have HNm:=hj_ (fun w'=>qml x.cb w' hcb)
 have hge:=pcI_ge P x.pr;have hlt:=pcI_lt P x.pr;have hno:=qgv (P:=P) (s:=x.pr);have hfo:=q9e P x.pr;have hrn:=qku (x:=x);have hat:¬ pcI P x.pr<0→pcF P x.pr=some (P.getD (pcI P x.pr).toNat pc0):=pcI_at;obtain ⟨ch,pt,pr,un,ad,ph,cb⟩:=x;show Rt 115 #[.slice A P.length c,.agg #[.int .i64 ch,.int .i64 pt,.string pr,.int .i64 un,.int .i64 ad,.int .i64 ph,.string cb]] w (.int .i64 (alE P ⟨ch,pt,pr,un,ad,ph,cb⟩))
 replace HRg:=hj_ (show ∀ w',Calls prog 164 #[.agg #[.int .i64 ch,.int .i64 pt,.string pr,.int .i64 un,.int .i64 ad,.int .i64 ph,.string cb]] w' fun e w''=>e=.returned (.int .i64 (if qkt ⟨ch,pt,pr,un,ad,ph,cb⟩=false then 2 else 0))∧Below w'.heap.size w' w'' from HRg.out)
 dsimp only at HP HNm hge hlt hno hfo hrn hat hA;generalize alE P ⟨ch,pt,pr,un,ad,ph,cb⟩=E at *;generalize qkt ⟨ch,pt,pr,un,ad,ph,cb⟩=q1 at *;generalize footV P pr=F at *;generalize pcF P pr=O at *;generalize pcI P pr=K at *;obtain ⟨W,HW,HB0,HK⟩:=bx7 w (.int .i64 ch) (.int .i64 pt) (.string pr) (.int .i64 un) (.int .i64 ad) (.int .i64 ph) (.string cb) 45;have hB:=Below.refl W.heap.size W;obtain ⟨c0,c1,c2,c3,c4,c5,c6⟩:=HK.out W hB;replace HL:=hj_ (hl.below HB0.out);clear hl hcb
 cases q1 with
 | false =>
  rw [if_pos rfl] at hA HRg;subst hA;clear hge hlt hno hfo hrn hat
  go_enter func115,ntmps115
  go_wp2_with fail;rw [← HW.out];refine uq_ (HRg.out _) hB fun wk hB=>?_;obtain ⟨c0,c1,c2,c3,c4,c5,c6⟩:=HK.out _ hB;go_wp2_with fail;go_ret;exact ⟨rfl,ht_ HB0.out hB⟩
 | true =>
  have hran:1≤ad∧ad≤512:=by
   have h:¬ _:=fun h2=>absurd (hrn.2 h2) d_
   omega
  rw [if_neg d_] at hA HRg
  clear hrn;have HAA:=hj_ hA;have HAt:=hj_ hat;have HNo:=hj_ hno;have HFo:=hj_ hfo;have HGe:=hj_ (And.intro hge hlt);have w5:IntKind.i64.wrap (512-ad)=512-ad:=IntWalk.i64_in _ o_
  have w6:IntKind.i64.wrap (512-ad+1)=513-ad:=by rw [show 512-ad+1=513-ad by omega];exact IntWalk.i64_in _ o_
  clear hA hat hno hfo hge hlt;have HEnd:=hj_ (show ((K<0∧(if O=none then (6:Int) else if F<1∨513-ad<F then 2 else 0)=6)∨(∃ k:Nat,K=k∧∃ hk:k<P.length,F=P[k].ft∧(if O=none then (6:Int) else if F<1∨513-ad<F then 2 else 0)=if F<1∨513-ad<F then 2 else 0)) from by
   by_cases hK:K<0
   ·exact .inl ⟨hK,by rw [if_pos (HNo.out.1 hK)]⟩
   ·have hO:=HAt.out hK
    have:=HGe.out
    refine .inr ⟨K.toNat,o_,o_,?_,?_⟩
    ·rw [HFo.out,hO,Option.getD_some,qa1 o_]
    ·rw [if_neg (by rw [hO];simp)])
  generalize (if O=none then (6:Int) else if F<1∨513-ad<F then 2 else 0)=E2 at *
  clear HAt HNo HFo HGe
  by_cases hcz:cb.size=0
  ·have hnl:cb.toList=[]:=by
    rw [ByteArray.toList_eq];exact List.eq_nil_of_length_eq_zero (by simpa using hcz)
   have hA:=HAA.out;rw [if_neg (fun h=>h.1 hcz)] at hA
   subst hA;clear HAA hcz
   rcases HEnd.out with ⟨hK,he⟩ | ⟨k,rfl,hk,rfl,he⟩
   ·subst he
    clear HEnd
    go_enter func115,ntmps115
    go_wp2_with fail;rw [← HW.out];refine uq_ (HRg.out _) hB fun wk hB=>?_;obtain ⟨c0,c1,c2,c3,c4,c5,c6⟩:=HK.out _ hB;go_wp2_with fail;refine uq_ (HP.out _ (HL.out.below hB)) hB fun wk hB=>?_;obtain ⟨c0,c1,c2,c3,c4,c5,c6⟩:=HK.out _ hB;go_wp2_with fail;go_ret;exact ⟨rfl,ht_ HB0.out hB⟩
   ·obtain ⟨b,o,rfl,hbl,hcell⟩:=pc_at HL.out o_
    have HC:=hj_ (hcell k hk).2.1;have i0:(0:Int)≤(k:Int):=o_
    have i1:(k:Int)<(P.length:Int):=o_
    have i2:¬ (k:Int)<0:=o_
    clear HEnd hcell;generalize P[k].ft=F at *
    go_enter func115,ntmps115
    go_wp2_with fail;rw [← HW.out];refine uq_ (HRg.out _) hB fun wk hB=>?_;obtain ⟨c0,c1,c2,c3,c4,c5,c6⟩:=HK.out _ hB;go_wp2_with fail;refine uq_ (HP.out _ (HL.out.below hB)) hB fun wk hB=>?_;obtain ⟨c0,c1,c2,c3,c4,c5,c6⟩:=HK.out _ hB;have p0:=(hB.cell (p:=⟨b,o+k*4+1,none⟩) hbl).trans HC.out;have hbw:=Nat.lt_of_lt_of_le hbl hB.size
    by_cases h1:F<1
    ·rw [if_pos (.inl h1)] at he
     subst he;go_wp2_with fail;go_ret;exact ⟨rfl,ht_ HB0.out hB⟩
    by_cases h2:513-ad<F
    ·rw [if_pos (.inr h2)] at he
     subst he;go_wp2_with fail;go_ret;exact ⟨rfl,ht_ HB0.out hB⟩
    rw [if_neg o_] at he
    subst he;go_wp2_with fail;go_ret;exact ⟨rfl,ht_ HB0.out hB⟩
  ·have hne:¬ cb.toList=[]:=fun e=>by
    rw [ByteArray.toList_eq] at e;exact hcz (show cb.data.size=0 by simpa using congrArg List.length e)
   have hem:cb.toList.isEmpty=false:=by
    cases h:cb.toList with
    | nil=>exact absurd h hne
    | cons=>rfl
   have hA:=HAA.out;clear HAA;generalize nmB cb=q2 at *
   cases q2 with
   | false =>
    rw [if_pos ⟨hcz,rfl⟩] at hA;subst hA;clear HEnd
    go_enter func115,ntmps115
    go_wp2_with fail;rw [← HW.out];refine uq_ (HRg.out _) hB fun wk hB=>?_;obtain ⟨c0,c1,c2,c3,c4,c5,c6⟩:=HK.out _ hB;go_wp2_with fail;refine uq_ (HNm.out _) hB fun wk hB=>?_;obtain ⟨c0,c1,c2,c3,c4,c5,c6⟩:=HK.out _ hB;go_wp2_with fail;go_ret;exact ⟨rfl,ht_ HB0.out hB⟩
   | true =>
    rw [if_neg (fun h=>absurd h.2 d_)] at hA
    subst hA;clear hcz
    rcases HEnd.out with ⟨hK,he⟩ | ⟨k,rfl,hk,rfl,he⟩
    ·subst he
     clear HEnd
     go_enter func115,ntmps115
     go_wp2_with fail;rw [← HW.out];refine uq_ (HRg.out _) hB fun wk hB=>?_;obtain ⟨c0,c1,c2,c3,c4,c5,c6⟩:=HK.out _ hB;go_wp2_with fail;refine uq_ (HNm.out _) hB fun wk hB=>?_;obtain ⟨c0,c1,c2,c3,c4,c5,c6⟩:=HK.out _ hB;go_wp2_with fail;refine uq_ (HP.out _ (HL.out.below hB)) hB fun wk hB=>?_;obtain ⟨c0,c1,c2,c3,c4,c5,c6⟩:=HK.out _ hB;go_wp2_with fail;go_ret;exact ⟨rfl,ht_ HB0.out hB⟩
    ·obtain ⟨b,o,rfl,hbl,hcell⟩:=pc_at HL.out o_
     have HC:=hj_ (hcell k hk).2.1;have i0:(0:Int)≤(k:Int):=o_
     have i1:(k:Int)<(P.length:Int):=o_
     have i2:¬ (k:Int)<0:=o_
     clear HEnd hcell;generalize P[k].ft=F at *
     go_enter func115,ntmps115
     go_wp2_with fail;rw [← HW.out];refine uq_ (HRg.out _) hB fun wk hB=>?_;obtain ⟨c0,c1,c2,c3,c4,c5,c6⟩:=HK.out _ hB;go_wp2_with fail;refine uq_ (HNm.out _) hB fun wk hB=>?_;obtain ⟨c0,c1,c2,c3,c4,c5,c6⟩:=HK.out _ hB;go_wp2_with fail;refine uq_ (HP.out _ (HL.out.below hB)) hB fun wk hB=>?_;obtain ⟨c0,c1,c2,c3,c4,c5,c6⟩:=HK.out _ hB;have p0:=(hB.cell (p:=⟨b,o+k*4+1,none⟩) hbl).trans HC.out;have hbw:=Nat.lt_of_lt_of_le hbl hB.size
     by_cases h1:F<1
     ·rw [if_pos (.inl h1)] at he
      subst he;go_wp2_with fail;go_ret;exact ⟨rfl,ht_ HB0.out hB⟩
     by_cases h2:513-ad<F
     ·rw [if_pos (.inr h2)] at he
      subst he;go_wp2_with fail;go_ret;exact ⟨rfl,ht_ HB0.out hB⟩
     rw [if_neg o_] at he
     subst he;go_wp2_with fail;go_ret;exact ⟨rfl,ht_ HB0.out hB⟩
theorem qmx (A:Option Addr) (n c:Nat) (P:List PC) (x y:Fx) (w:World) (hl:shPr.In w A n P) (hn:n≤9223372036854775806) (hx:FxOK P x) (hy:FxOK P y) :
  Rt 116 #[.slice A n c,x.val,y.val] w (.bool (overB P y x)):=by
 have hov:overB P y x=(decide (x.un=y.un) && decide (x.ad<y.ad+footV P y.pr) && decide (y.ad<x.ad+footV P x.pr)):=rfl;obtain ⟨hx1,hx2,hx3,px,hx4⟩:=hx;obtain ⟨hy1,hy2,hy3,py,hy4⟩:=hy;have hxa:1≤x.ad:=by
  have h:¬ _:=fun h2=>absurd ((qku (x:=x)).2 h2) (by rw [hx1];decide)
  omega
 have hya:1≤y.ad:=by
  have h:¬ _:=fun h2=>absurd ((qku (x:=y)).2 h2) (by rw [hy1];decide)
  omega
 have HX:=hj_ (fun w' hl=>qnp A n c P x w' hl hn px hx4)
 have HY:=hj_ (fun w' hl=>qnp A n c P y w' hl hn py hy4)
 obtain ⟨ch,pt,pr,un,ad,ph,cb⟩:=x;obtain ⟨ch',pt',pr',un',ad',ph',cb'⟩:=y;dsimp only at hov hx2 hx3 hy2 hy3 hxa hya;replace HX:=hj_ (show ∀ w',shPr.In w' A n P→Calls prog 165 #[.slice A n c,.agg #[.int .i64 ch,.int .i64 pt,.string pr,.int .i64 un,.int .i64 ad,.int .i64 ph,.string cb]] w' fun e w''=>e=.returned (.int .i64 (footV P pr))∧Below w'.heap.size w' w'' from HX.out)
 replace HY:=hj_ (show ∀ w',shPr.In w' A n P→Calls prog 165 #[.slice A n c,.agg #[.int .i64 ch',.int .i64 pt',.string pr',.int .i64 un',.int .i64 ad',.int .i64 ph',.string cb']] w' fun e w''=>e=.returned (.int .i64 (footV P pr'))∧Below w'.heap.size w' w'' from HY.out)
 show Rt 116 #[.slice A n c,.agg #[.int .i64 ch,.int .i64 pt,.string pr,.int .i64 un,.int .i64 ad,.int .i64 ph,.string cb],.agg #[.int .i64 ch',.int .i64 pt',.string pr',.int .i64 un',.int .i64 ad',.int .i64 ph',.string cb']] w (.bool (overB P ⟨ch',pt',pr',un',ad',ph',cb'⟩ ⟨ch,pt,pr,un,ad,ph,cb⟩))
 generalize overB P _ _=q at *;generalize footV P pr=F at *;generalize footV P pr' = F' at *;have he:(un == un')=decide (un=un'):=by rw [Bool.eq_iff_iff];simp
 have w1:IntKind.i64.wrap (ad+F)=ad+F:=IntWalk.i64_in _ o_
 have w2:IntKind.i64.wrap (ad' + F')=ad' + F':=IntWalk.i64_in _ o_
 obtain ⟨W,HW,HB0,HK⟩:=bx7_7 w (.int .i64 ch) (.int .i64 pt) (.string pr) (.int .i64 un) (.int .i64 ad) (.int .i64 ph) (.string cb) 45 (.int .i64 ch') (.int .i64 pt') (.string pr') (.int .i64 un') (.int .i64 ad') (.int .i64 ph') (.string cb') 45;have hB:=Below.refl W.heap.size W;obtain ⟨c0,c1,c2,c3,c4,c5,c6,c7,c8,c9,c10,c11,c12,c13⟩:=HK.out W hB;have HL:=hj_ (hl.below HB0.out);clear hl hx1 hy1 hx4 hy4 hn
 by_cases h1:un=un'
 case neg =>
  rw [decide_eq_false h1,Bool.false_and,Bool.false_and] at hov;rw [decide_eq_false h1] at he;subst hov;clear h1
  go_enter func116,ntmps116
  go_wp2_with fail;rw [← HW.out];go_quiet (fail);replace hB:=q18 hB nq;go_wp2_with fail;go_ret;exact ⟨rfl,ht_ HB0.out hB⟩
 rw [decide_eq_true h1] at he;rw [decide_eq_true h1,Bool.true_and] at hov;clear h1;obtain ⟨SzOf,hSz⟩:∃ SzOf:Value→Int→Prop,SzOf=fun v F0=>∀ w',shPr.In w' A n P→Calls prog 165 #[.slice A n c,v] w' fun e w''=>e=.returned (.int .i64 F0)∧Below w'.heap.size w' w'':=⟨_,rfl⟩
 have hs1:SzOf (.agg #[.int .i64 ch,.int .i64 pt,.string pr,.int .i64 un,.int .i64 ad,.int .i64 ph,.string cb]) F:=by rw [hSz];exact HX.out
 have hs2:SzOf (.agg #[.int .i64 ch',.int .i64 pt',.string pr',.int .i64 un',.int .i64 ad',.int .i64 ph',.string cb']) F':=by rw [hSz];exact HY.out
 have HSz:=hj_ (fun (v:Value) (F0:Int) (h:SzOf v F0)=>show ∀ w',shPr.In w' A n P→Calls prog 165 #[.slice A n c,v] w' fun e w''=>e=.returned (.int .i64 F0)∧Below w'.heap.size w' w'' from by rw [hSz] at h;exact h)
 clear hSz HX HY
 by_cases h2:ad<ad' + F'
 case neg =>
  rw [decide_eq_false h2,Bool.false_and] at hov;have g2:decide (ad<ad' + F')=false:=decide_eq_false h2;subst hov;clear h2
  go_enter func116,ntmps116
  go_wp2_with fail;rw [← HW.out];replace hB:=q18 hB 1;obtain ⟨c0,c1,c2,c3,c4,c5,c6,c7,c8,c9,c10,c11,c12,c13⟩:=HK.out _ hB;refine wp_region_held_drew (S:=fun w'=>w'.cell? ⟨w.heap.size,0,none⟩=some (.int .i64 ch)∧w'.cell? ⟨w.heap.size,1,none⟩=some (.int .i64 pt)∧w'.cell? ⟨w.heap.size,2,none⟩=some (.string pr)∧w'.cell? ⟨w.heap.size,3,none⟩=some (.int .i64 un)∧w'.cell? ⟨w.heap.size,4,none⟩=some (.int .i64 ad)∧w'.cell? ⟨w.heap.size,5,none⟩=some (.int .i64 ph)∧w'.cell? ⟨w.heap.size,6,none⟩=some (.string cb)∧w'.cell? ⟨w.heap.size+1,0,none⟩=some (.int .i64 ch')∧w'.cell? ⟨w.heap.size+1,1,none⟩=some (.int .i64 pt')∧w'.cell? ⟨w.heap.size+1,2,none⟩=some (.string pr')∧w'.cell? ⟨w.heap.size+1,3,none⟩=some (.int .i64 un')∧w'.cell? ⟨w.heap.size+1,4,none⟩=some (.int .i64 ad')∧w'.cell? ⟨w.heap.size+1,5,none⟩=some (.int .i64 ph')∧w'.cell? ⟨w.heap.size+1,6,none⟩=some (.string cb')) k_ (by first | exact ⟨⟨c0,c1,c2,c3,c4,c5,c6⟩,c7,c8,c9,c10,c11,c12,c13⟩ | exact ⟨c0,c1,c2,c3,c4,c5,c6,c7,c8,c9,c10,c11,c12,c13⟩) (fun hHeld=>?_)
  repeat
   refine tk (i:=?_) (oi:=?_) (v:=?_) ?_ ?_ ?_ ?_ ?_ ?_ ?_ ?_ ?_
   rotate_left 3
   ·first | exact Eq.refl 0 | exact Eq.refl 1 | exact Eq.refl 2 | exact Eq.refl 3 | exact Eq.refl 4 | exact Eq.refl 5 | exact Eq.refl 6 | exact Eq.refl 7 | exact Eq.refl 8 | exact Eq.refl 9 | exact Eq.refl 10 | exact Eq.refl 11 | exact Eq.refl 12 | exact Eq.refl 13 | exact Eq.refl 14 | exact Eq.refl 15 | exact Eq.refl 16 | exact Eq.refl 17 | exact Eq.refl 18 | exact Eq.refl 19 | exact Eq.refl 20 | exact Eq.refl 21 | exact Eq.refl 22 | exact Eq.refl 23 | exact Eq.refl 24 | exact Eq.refl 25 | exact Eq.refl 26 | exact Eq.refl 27
   ·simp only [List.getElem?_toArray,List.getElem?_cons_succ,List.getElem?_cons_zero];rfl
   ·kernel_rfl
   ·kernel_rfl
   ·kernel_rfl
   rotate_left 1
   ·first | (refine Or.inl ⟨?_,?_⟩;(· rfl);intro w hSw;(try dsimp only at hSw);go_simp;try with_reducible rfl) | exact Or.inr ⟨rfl,rfl⟩
   ·assumption
   rotate_left 1
   ·exact fun _ _ _ h=>h
   simp only [Act.put,List.setIfInBounds_toArray,List.set_cons_zero,List.set_cons_succ]
  refine tr 12 fun K hK=>?_
  go_simp
  go_at_call 165;refine uq_ (HSz.out _ _ (by assumption) _ (HL.out.below hB)) hB fun wk hB=>?_;obtain ⟨c0,c1,c2,c3,c4,c5,c6,c7,c8,c9,c10,c11,c12,c13⟩:=HK.out _ hB
  go_wp2_with fail;refine hK.out _ _ (by first | exact ⟨⟨c0,c1,c2,c3,c4,c5,c6⟩,c7,c8,c9,c10,c11,c12,c13⟩ | exact ⟨c0,c1,c2,c3,c4,c5,c6,c7,c8,c9,c10,c11,c12,c13⟩) (fun hHeld=>?_)
  clear hK K
  repeat
   refine tk (i:=?_) (oi:=?_) (v:=?_) ?_ ?_ ?_ ?_ ?_ ?_ ?_ ?_ ?_
   rotate_left 3
   ·first | exact Eq.refl 0 | exact Eq.refl 1 | exact Eq.refl 2 | exact Eq.refl 3 | exact Eq.refl 4 | exact Eq.refl 5 | exact Eq.refl 6 | exact Eq.refl 7 | exact Eq.refl 8 | exact Eq.refl 9 | exact Eq.refl 10 | exact Eq.refl 11 | exact Eq.refl 12 | exact Eq.refl 13 | exact Eq.refl 14 | exact Eq.refl 15 | exact Eq.refl 16 | exact Eq.refl 17 | exact Eq.refl 18 | exact Eq.refl 19 | exact Eq.refl 20 | exact Eq.refl 21 | exact Eq.refl 22 | exact Eq.refl 23 | exact Eq.refl 24 | exact Eq.refl 25 | exact Eq.refl 26 | exact Eq.refl 27
   ·simp only [List.getElem?_toArray,List.getElem?_cons_succ,List.getElem?_cons_zero];rfl
   ·kernel_rfl
   ·kernel_rfl
   ·kernel_rfl
   rotate_left 1
   ·first | (refine Or.inl ⟨?_,?_⟩;(· rfl);intro w hSw;(try dsimp only at hSw);go_simp;try with_reducible rfl) | exact Or.inr ⟨rfl,rfl⟩
   ·assumption
   rotate_left 1
   ·exact fun _ _ _ h=>h
   simp only [Act.put,List.setIfInBounds_toArray,List.set_cons_zero,List.set_cons_succ]
  refine tq 17 ?_;refine tq 18 ?_;refine tq 19 ?_;refine tq 20 ?_;refine tq 21 ?_;refine tq 22 ?_;refine tq 23 ?_;refine tq 24 ?_;refine tq 25 ?_
  repeat
   refine tk (i:=?_) (oi:=?_) (v:=?_) ?_ ?_ ?_ ?_ ?_ ?_ ?_ ?_ ?_
   rotate_left 3
   ·first | exact Eq.refl 0 | exact Eq.refl 1 | exact Eq.refl 2 | exact Eq.refl 3 | exact Eq.refl 4 | exact Eq.refl 5 | exact Eq.refl 6 | exact Eq.refl 7 | exact Eq.refl 8 | exact Eq.refl 9 | exact Eq.refl 10 | exact Eq.refl 11 | exact Eq.refl 12 | exact Eq.refl 13 | exact Eq.refl 14 | exact Eq.refl 15 | exact Eq.refl 16 | exact Eq.refl 17 | exact Eq.refl 18 | exact Eq.refl 19 | exact Eq.refl 20 | exact Eq.refl 21 | exact Eq.refl 22 | exact Eq.refl 23 | exact Eq.refl 24 | exact Eq.refl 25 | exact Eq.refl 26 | exact Eq.refl 27
   ·simp only [List.getElem?_toArray,List.getElem?_cons_succ,List.getElem?_cons_zero];rfl
   ·kernel_rfl
   ·kernel_rfl
   ·kernel_rfl
   rotate_left 1
   ·first | (refine Or.inl ⟨?_,?_⟩;(· rfl);intro w hSw;(try dsimp only at hSw);go_simp;try with_reducible rfl) | exact Or.inr ⟨rfl,rfl⟩
   ·assumption
   rotate_left 1
   ·exact fun _ _ _ h=>h
   simp only [Act.put,List.setIfInBounds_toArray,List.set_cons_zero,List.set_cons_succ]
  refine wpAnyH_done k_ ?_ _
  go_wp2_with fail;go_ret;exact ⟨rfl,ht_ HB0.out hB⟩
 rw [decide_eq_true h2,Bool.true_and] at hov;have g2:decide (ad<ad' + F')=true:=decide_eq_true h2;clear h2;subst hov
 go_enter func116,ntmps116
 go_wp2_with fail;rw [← HW.out];replace hB:=q18 hB 1;obtain ⟨c0,c1,c2,c3,c4,c5,c6,c7,c8,c9,c10,c11,c12,c13⟩:=HK.out _ hB;refine wp_region_held_drew (S:=fun w'=>w'.cell? ⟨w.heap.size,0,none⟩=some (.int .i64 ch)∧w'.cell? ⟨w.heap.size,1,none⟩=some (.int .i64 pt)∧w'.cell? ⟨w.heap.size,2,none⟩=some (.string pr)∧w'.cell? ⟨w.heap.size,3,none⟩=some (.int .i64 un)∧w'.cell? ⟨w.heap.size,4,none⟩=some (.int .i64 ad)∧w'.cell? ⟨w.heap.size,5,none⟩=some (.int .i64 ph)∧w'.cell? ⟨w.heap.size,6,none⟩=some (.string cb)∧w'.cell? ⟨w.heap.size+1,0,none⟩=some (.int .i64 ch')∧w'.cell? ⟨w.heap.size+1,1,none⟩=some (.int .i64 pt')∧w'.cell? ⟨w.heap.size+1,2,none⟩=some (.string pr')∧w'.cell? ⟨w.heap.size+1,3,none⟩=some (.int .i64 un')∧w'.cell? ⟨w.heap.size+1,4,none⟩=some (.int .i64 ad')∧w'.cell? ⟨w.heap.size+1,5,none⟩=some (.int .i64 ph')∧w'.cell? ⟨w.heap.size+1,6,none⟩=some (.string cb')) k_ (by first | exact ⟨⟨c0,c1,c2,c3,c4,c5,c6⟩,c7,c8,c9,c10,c11,c12,c13⟩ | exact ⟨c0,c1,c2,c3,c4,c5,c6,c7,c8,c9,c10,c11,c12,c13⟩) (fun hHeld=>?_)
 repeat
  refine tk (i:=?_) (oi:=?_) (v:=?_) ?_ ?_ ?_ ?_ ?_ ?_ ?_ ?_ ?_
  rotate_left 3
  ·first | exact Eq.refl 0 | exact Eq.refl 1 | exact Eq.refl 2 | exact Eq.refl 3 | exact Eq.refl 4 | exact Eq.refl 5 | exact Eq.refl 6 | exact Eq.refl 7 | exact Eq.refl 8 | exact Eq.refl 9 | exact Eq.refl 10 | exact Eq.refl 11 | exact Eq.refl 12 | exact Eq.refl 13 | exact Eq.refl 14 | exact Eq.refl 15 | exact Eq.refl 16 | exact Eq.refl 17 | exact Eq.refl 18 | exact Eq.refl 19 | exact Eq.refl 20 | exact Eq.refl 21 | exact Eq.refl 22 | exact Eq.refl 23 | exact Eq.refl 24 | exact Eq.refl 25 | exact Eq.refl 26 | exact Eq.refl 27
  ·simp only [List.getElem?_toArray,List.getElem?_cons_succ,List.getElem?_cons_zero];rfl
  ·kernel_rfl
  ·kernel_rfl
  ·kernel_rfl
  rotate_left 1
  ·first | (refine Or.inl ⟨?_,?_⟩;(· rfl);intro w hSw;(try dsimp only at hSw);go_simp;try with_reducible rfl) | exact Or.inr ⟨rfl,rfl⟩
  ·assumption
  rotate_left 1
  ·exact fun _ _ _ h=>h
  simp only [Act.put,List.setIfInBounds_toArray,List.set_cons_zero,List.set_cons_succ]
 refine tr 12 fun K hK=>?_
 go_simp
 go_at_call 165;refine uq_ (HSz.out _ _ (by assumption) _ (HL.out.below hB)) hB fun wk hB=>?_;obtain ⟨c0,c1,c2,c3,c4,c5,c6,c7,c8,c9,c10,c11,c12,c13⟩:=HK.out _ hB
 go_wp2_with fail;refine hK.out _ _ (by first | exact ⟨⟨c0,c1,c2,c3,c4,c5,c6⟩,c7,c8,c9,c10,c11,c12,c13⟩ | exact ⟨c0,c1,c2,c3,c4,c5,c6,c7,c8,c9,c10,c11,c12,c13⟩) (fun hHeld=>?_)
 clear hK K
 repeat
  refine tk (i:=?_) (oi:=?_) (v:=?_) ?_ ?_ ?_ ?_ ?_ ?_ ?_ ?_ ?_
  rotate_left 3
  ·first | exact Eq.refl 0 | exact Eq.refl 1 | exact Eq.refl 2 | exact Eq.refl 3 | exact Eq.refl 4 | exact Eq.refl 5 | exact Eq.refl 6 | exact Eq.refl 7 | exact Eq.refl 8 | exact Eq.refl 9 | exact Eq.refl 10 | exact Eq.refl 11 | exact Eq.refl 12 | exact Eq.refl 13 | exact Eq.refl 14 | exact Eq.refl 15 | exact Eq.refl 16 | exact Eq.refl 17 | exact Eq.refl 18 | exact Eq.refl 19 | exact Eq.refl 20 | exact Eq.refl 21 | exact Eq.refl 22 | exact Eq.refl 23 | exact Eq.refl 24 | exact Eq.refl 25 | exact Eq.refl 26 | exact Eq.refl 27
  ·simp only [List.getElem?_toArray,List.getElem?_cons_succ,List.getElem?_cons_zero];rfl
  ·kernel_rfl
  ·kernel_rfl
  ·kernel_rfl
  rotate_left 1
  ·first | (refine Or.inl ⟨?_,?_⟩;(· rfl);intro w hSw;(try dsimp only at hSw);go_simp;try with_reducible rfl) | exact Or.inr ⟨rfl,rfl⟩
  ·assumption
  rotate_left 1
  ·exact fun _ _ _ h=>h
  simp only [Act.put,List.setIfInBounds_toArray,List.set_cons_zero,List.set_cons_succ]
 refine tr 23 fun K hK=>?_
 go_simp
 go_at_call 165;refine uq_ (HSz.out _ _ (by assumption) _ (HL.out.below hB)) hB fun wk hB=>?_;obtain ⟨c0,c1,c2,c3,c4,c5,c6,c7,c8,c9,c10,c11,c12,c13⟩:=HK.out _ hB
 go_wp2_with fail;refine hK.out _ _ (by first | exact ⟨⟨c0,c1,c2,c3,c4,c5,c6⟩,c7,c8,c9,c10,c11,c12,c13⟩ | exact ⟨c0,c1,c2,c3,c4,c5,c6,c7,c8,c9,c10,c11,c12,c13⟩) (fun hHeld=>?_)
 clear hK K
 repeat
  refine tk (i:=?_) (oi:=?_) (v:=?_) ?_ ?_ ?_ ?_ ?_ ?_ ?_ ?_ ?_
  rotate_left 3
  ·first | exact Eq.refl 0 | exact Eq.refl 1 | exact Eq.refl 2 | exact Eq.refl 3 | exact Eq.refl 4 | exact Eq.refl 5 | exact Eq.refl 6 | exact Eq.refl 7 | exact Eq.refl 8 | exact Eq.refl 9 | exact Eq.refl 10 | exact Eq.refl 11 | exact Eq.refl 12 | exact Eq.refl 13 | exact Eq.refl 14 | exact Eq.refl 15 | exact Eq.refl 16 | exact Eq.refl 17 | exact Eq.refl 18 | exact Eq.refl 19 | exact Eq.refl 20 | exact Eq.refl 21 | exact Eq.refl 22 | exact Eq.refl 23 | exact Eq.refl 24 | exact Eq.refl 25 | exact Eq.refl 26 | exact Eq.refl 27
  ·simp only [List.getElem?_toArray,List.getElem?_cons_succ,List.getElem?_cons_zero];rfl
  ·kernel_rfl
  ·kernel_rfl
  ·kernel_rfl
  rotate_left 1
  ·first | (refine Or.inl ⟨?_,?_⟩;(· rfl);intro w hSw;(try dsimp only at hSw);go_simp;try with_reducible rfl) | exact Or.inr ⟨rfl,rfl⟩
  ·assumption
  rotate_left 1
  ·exact fun _ _ _ h=>h
  simp only [Act.put,List.setIfInBounds_toArray,List.set_cons_zero,List.set_cons_succ]
 refine wpAnyH_done k_ ?_ _
 go_wp2_with fail;go_ret;exact ⟨rfl,ht_ HB0.out hB⟩
def fewRg (L:List (List PT)) (PL:List (PC × List Fea)) (n:Nat):Bool:=decide (PL.length≤40) && decide (n≤70) && fewAll L && PL.all fun x=>fewP x.1.s x.2
theorem q7v (hk:k<PL.length) (h:fewP PL[k].1.s PL[k].2=false):fewRg L PL n=false:=by
 unfold fewRg;rw [Bool.and_eq_false_iff]
 right
 rw [List.all_eq_false];exact ⟨PL[k],List.getElem_mem hk,by simpa using h⟩
theorem q7w (h:¬ PL.length≤40):fewRg L PL n=false:=by unfold fewRg;rw [decide_eq_false h];rfl
theorem q7u (h40:PL.length≤40) (h:∀ i (h:i<PL.length),fewP PL[i].1.s PL[i].2=true):fewRg L PL n=(fewAll L && decide (n≤70)):=by
 unfold fewRg
 have:(PL.all fun x=>fewP x.1.s x.2)=true:=by
  rw [List.all_eq_true];intro x hx;obtain ⟨i,hi,rfl⟩:=List.getElem_of_mem hx;exact h i hi
 rw [this,decide_eq_true h40,Bool.and_true,Bool.true_and,Bool.and_comm]
theorem q7x (h:fewRg L PL n=true):PL.length≤40∧n≤70∧fewAll L=true∧∀ x ∈ PL,fewP x.1.s x.2=true:=by
 unfold fewRg at h;rw [Bool.and_eq_true,Bool.and_eq_true,Bool.and_eq_true,List.all_eq_true] at h;exact ⟨of_decide_eq_true h.1.1.1,of_decide_eq_true h.1.1.2,h.1.2,h.2⟩
def InR (w:World) (A:Option Addr) (n:Nat) (PL:List (PC × List Fea)):Prop :=
 shPr.In w A n (PL.map Prod.fst)∧∀ x ∈ PL,(∃ H,InF w x.1.A x.1.n H x.2∧∀ i (h:i<H.length) (h':i<x.2.length),FW w H[i] x.2[i].wh)∧x.1.n≤9223372036854775807
theorem InR.below (h:InR w A n PL) (hb:Below w.heap.size w w'):InR w' A n PL :=
 ⟨h.1.below hb,fun x hx=>⟨(h.2 x hx).1.imp fun _ hi=>⟨hi.1.below hb,fun i h1 h2=>(hi.2 i h1 h2).below hb⟩,(h.2 x hx).2⟩⟩
theorem q7s {s:ByteArray} {l:List Fea} (h:fewP s l=true):l.length≤40:=by
 unfold fewP at h;rw [Bool.and_eq_true,Bool.and_eq_true] at h;exact of_decide_eq_true h.1.1
theorem InR.few {m:Nat} (h:InR w A n PL) (hf:fewRg L PL m=true):InPs w A n PL :=
 ⟨h.1,fun x hx=>by
  obtain ⟨⟨H,h1,h2⟩,h3⟩:=h.2 x hx;have h4:=q7s ((q7x hf).2.2.2 x hx);have h5:=h1.1.1;have h6:=h1.2.1;exact ⟨H,h1,o_,h2⟩⟩
theorem qm7 (A0:Option Addr) (n0 d0:Nat) (H:List Hd) (L:List (List PT)) (A1:Option Addr) (n1 d1:Nat) (PL:List (PC × List Fea)) (A2:Option Addr) (n2 d2:Nat) (w:World)
  (hl:InN w A0 n0 H L) (hn0:n0≤9223372036854775807) (hp:InR w A1 n1 PL) (hn1:n1≤9223372036854775807) :
  Rt 22 #[.agg #[.slice A0 n0 d0,.slice A1 n1 d1,.slice A2 n2 d2]] w (.bool (fewRg L PL n2)):=by
 have hn1l:n1=PL.length:=by have:=hp.1.1;simpa using this
 subst hn1l;have HFw:=hj_ (fun (x:PC × List Fea) (H':List FC) w h1 h2=>qm6 x.1.s x.1.ft x.1.wa x.1.A x.1.n x.1.c H' x.2 w h1 h2)
 have HFa:=hj_ (fun w hl=>qkj A0 n0 d0 H L w hl hn0)
 obtain ⟨E,hE⟩:=ex_ (fewRg L PL n2);rw [← hE];have HE:=hj_ hE;obtain ⟨W,HW,HB0,HK⟩:=bx3 w (.slice A0 n0 d0) (.slice A1 PL.length d1) (.slice A2 n2 d2) 34;have hB:=Below.refl W.heap.size W;obtain ⟨c0,c1,c2⟩:=HK.out W hB;have HL:=hj_ (hl.below HB0.out);have HP:=hj_ (hp.below HB0.out);have HFin:=hj_ (fun (w':World) (h:Below W.heap.size W w')=>ht_ HB0.out h)
 clear hl hp hE hn0
 go_enter func22,ntmps22
 go_wp2_with fail;rw [← HW.out]
 go_loopw [3] (fun iv wr=>∃ k:Nat,k≤PL.length∧k≤40∧iv=.int .i64 k∧(∀ i (h:i<PL.length),i<k→fewP PL[i].1.s PL[i].2=true)∧Below W.heap.size W wr) (fun iv _=>PL.length-(intOf iv).toNat)
 case atStart=>exact ⟨0,Nat.zero_le _,Nat.zero_le _,rfl,fun i _ h=>absurd h (Nat.not_lt_zero _),br_⟩
 case round =>
  obtain ⟨k,hk,hk4,rfl,hall,hB⟩:=hrel;have HAll:=hj_ hall;clear hall;obtain ⟨c0,c1,c2⟩:=HK.out _ hB
  by_cases hlt:k<PL.length
  ·by_cases h40:k<40
   ·have hkm:k<(PL.map Prod.fst).length:=by rw [List.length_map];exact hlt
    obtain ⟨b,o,rfl,hbl,hcell⟩:=pc_at HP.out.1 o_
    obtain ⟨k0,k1,k2,k3⟩:=hcell k hkm;rw [List.getElem_map] at k0 k1 k2 k3;have p0:=(hB.cell (p:=⟨b,o+k*4,none⟩) hbl).trans k0;have p1:=(hB.cell (p:=⟨b,o+k*4+1,none⟩) hbl).trans k1;have p2:=(hB.cell (p:=⟨b,o+k*4+2,none⟩) hbl).trans k2;have p3:=(hB.cell (p:=⟨b,o+k*4+3,none⟩) hbl).trans k3;have hbw:b<wr.heap.size:=Nat.lt_of_lt_of_le hbl hB.size;obtain ⟨⟨HF,hinp⟩,hnb⟩:=HP.out.2 _ (List.getElem_mem hlt);have HQ:=hj_ (hinp.1.below hB);have HC:=hj_ (fun (w:World) (h1:InF w PL[k].1.A PL[k].1.n HF PL[k].2)=>HFw.out PL[k] HF w h1 o_)
    have HN:=hj_ (show (fewP PL[k].1.s PL[k].2=false→fewRg L PL n2=false)∧(fewP PL[k].1.s PL[k].2=true→∀ i (h:i<PL.length),i<k+1→fewP PL[i].1.s PL[i].2=true) from ⟨fun h=>q7v hlt h,fun h i hi hik=>by
     rcases Nat.lt_or_eq_of_le (Nat.le_of_lt_succ hik) with h1 | h1
     ·exact HAll.out i hi h1
     ·subst h1;exact h⟩)
    clear hcell k0 k1 k2 k3 hinp hnb;generalize PL[k]=x at *;obtain ⟨⟨ps,pf,pw,pA,pn,pc⟩,pl⟩:=x;dsimp only at p0 p1 p2 p3 HC HQ HN;generalize fewP ps pl=q at *;have i1:(k:Int)<(PL.length:Int):=o_
    have i2:(k:Int)<40:=o_
    have i3:(0:Int)≤(k:Int):=o_
    have w0:IntKind.i64.wrap ((k:Int)+1)=(k:Int)+1:=IntWalk.i64_in _ o_
    cases q with
    | true =>
     have HN2:=hj_ (HN.out.2 rfl);clear HN;go_wp2_with fail;refine uq_ (HC.out _ HQ.out) hB fun wk hB=>?_;go_wp2_with fail
     go_roundw
     case rel=>exact ⟨k+1,o_,o_,by go_num,HN2.out,hB⟩
     case measure=>simp [intOf];omega
    | false =>
     have hf:E=false:=HE.out.trans (HN.out.1 rfl);subst hf;clear HN;go_wp2_with fail;refine uq_ (HC.out _ HQ.out) hB fun wk hB=>?_;go_wp2_with fail;go_ret;exact ⟨rfl,HFin.out _ hB⟩
   ·obtain rfl:k=40:=by omega
    have hf:E=false:=HE.out.trans (q7w o_)
    subst hf;have i1:(40:Int)<(PL.length:Int):=o_
    have i2:¬ (PL.length:Int)≤40:=o_
    have i3:decide ((PL.length:Int)≤40)=false:=decide_eq_false i2;generalize fewAll L=q at *
    cases q with
    | true =>
     go_wp2_with fail;refine uq_ (HFa.out _ (HL.out.below hB)) hB fun wk hB=>?_;obtain ⟨c0,c1,c2⟩:=HK.out _ hB;go_wp2_with fail;go_ret;exact ⟨rfl,HFin.out _ hB⟩
    | false =>
     go_wp2_with fail;refine uq_ (HFa.out _ (HL.out.below hB)) hB fun wk hB=>?_;obtain ⟨c0,c1,c2⟩:=HK.out _ hB;go_wp2_with fail;go_ret;exact ⟨rfl,HFin.out _ hB⟩
  ·obtain rfl:k=PL.length:=by omega
   have hf:E=(fewAll L && decide (n2≤70)):=HE.out.trans (q7u hk4 fun i hi=>HAll.out i hi hi)
   have i1:¬ (PL.length:Int)<(PL.length:Int):=o_
   have i2:(PL.length:Int)≤40:=o_
   have i3:decide ((PL.length:Int)≤40)=true:=decide_eq_true i2;generalize fewAll L=q at *
   cases q with
   | true =>
    have i4:decide ((n2:Int)≤70)=decide (n2≤70):=by rw [decide_eq_decide];omega
    rw [Bool.true_and] at hf;subst hf;go_wp2_with fail;refine uq_ (HFa.out _ (HL.out.below hB)) hB fun wk hB=>?_;obtain ⟨c0,c1,c2⟩:=HK.out _ hB;go_wp2_with fail;go_ret;exact ⟨by first | rfl | exact ret_b i4 | exact ret_b i4.symm,HFin.out _ hB⟩
   | false =>
    rw [Bool.false_and] at hf;subst hf;go_wp2_with fail;refine uq_ (HFa.out _ (HL.out.below hB)) hB fun wk hB=>?_;obtain ⟨c0,c1,c2⟩:=HK.out _ hB;go_wp2_with fail;go_ret;exact ⟨rfl,HFin.out _ hB⟩
theorem q0k {α:Type} {p:α→Bool} {l:List α} (hk:k≤l.length) (h:∀ j (hj:j<l.length),j<k→p l[j]=false):(l.take k).any p=false:=by
 rw [List.any_eq_false];intro x hx;obtain ⟨j,hj,rfl⟩:=List.getElem_of_mem hx;rw [List.length_take] at hj;rw [List.getElem_take,h j o_ o_]
 decide
theorem q0o {α:Type} {p:α→Bool} {l:List α} {j:Nat} (hj:j<k) (hk:k≤l.length) (h:p (l[j]'o_)=true):(l.take k).any p=true:=by
 rw [List.any_eq_true];refine ⟨l[j]'o_,?_,h⟩
 rw [List.mem_iff_getElem];exact ⟨j,by rw [List.length_take];omega,by rw [List.getElem_take]⟩
theorem qn9 (A:Option Addr) (n c:Nat) (X:List Fx) (A1:Option Addr) (n1 c1:Nat) (P:List PC) (w:World) (hx:shX.In w A n X) (hn:n≤9223372036854775806) (hp:shPr.In w A1 n1 P) (hn1:n1≤9223372036854775806) (hcb:∀ x ∈ X,x.cb.size≤9223372036854775807) :
  Rt 69 #[.slice A n c,.slice A1 n1 c1] w (.int .i64 (patE P X)):=by
 obtain ⟨rfl,_⟩:=id hx;obtain ⟨rfl,_⟩:=id hp;have hB:=Below.refl w.heap.size w;have hU:patE P X=if 32<P.length∨64<X.length then 5 else firstE (fxE P X) X.length:=rfl
 obtain ⟨E,hE⟩:=xe_ (patE P X);rw [hE] at hU ⊢;have HX:=hj_ hx;have HP:=hj_ hp;have HAl:=hj_ (fun (x:Fx) (h:x ∈ X) w hl=>qkr A1 P.length c1 P x w hl hn1 (hcb x h))
 have HOv:=hj_ (fun (x y:Fx) w hl h1 h2=>qmx A1 P.length c1 P x y w hl hn1 h1 h2)
 clear hx hp hcb hE
 by_cases h1:32<P.length
 ·rw [if_pos (.inl h1)] at hU
  subst hU;have g1:(32:Int)<(P.length:Int):=o_
  go_enter func69,ntmps69
  go_wp2_with fail;go_ret;exact ⟨rfl,hB⟩
 have g1:¬ (32:Int)<(P.length:Int):=o_
 by_cases h2:64<X.length
 ·rw [if_pos (.inr h2)] at hU
  subst hU;have g2:(64:Int)<(X.length:Int):=o_
  go_enter func69,ntmps69
  go_wp2_with fail;go_ret;exact ⟨rfl,hB⟩
 have g2:¬ (64:Int)<(X.length:Int):=o_
 rw [if_neg o_] at hU
 have HU:=hj_ hU;clear hU
 go_enter func69,ntmps69
 go_wp2_with fail
 go_loopw [5] (fun iv wr=>∃ k:Nat,k≤X.length∧iv=.int .i64 k∧(∀ j,j<k→fxE P X j=0)∧Below w.heap.size w wr) (fun iv _=>X.length-(intOf iv).toNat)
 case atStart=>exact ⟨0,Nat.zero_le _,rfl,fun j h=>absurd h (Nat.not_lt_zero _),hB⟩
 case round =>
  clear hB;obtain ⟨k,hk,rfl,hall,hB⟩:=hrel;have HAll:=hj_ hall;clear hall
  by_cases hlt:k<X.length
  case neg =>
   obtain rfl:k=X.length:=o_
   have hU:=HU.out;rw [q86 HAll.out] at hU;subst hU;go_wp2_with fail;go_ret;exact ⟨rfl,hB⟩
  case pos =>
   obtain ⟨b,o,rfl,hbl,hcell⟩:=fx_at HX.out o_
   have HCell:=hj_ (fun (w':World) (h:Below w.heap.size w w') j (hj:j<X.length)=>show w'.cell? ⟨b,o+j*7,none⟩=some (.int .i64 X[j].ch)∧w'.cell? ⟨b,o+j*7+1,none⟩=some (.int .i64 X[j].pt)∧w'.cell? ⟨b,o+j*7+2,none⟩=some (.string X[j].pr)∧w'.cell? ⟨b,o+j*7+3,none⟩=some (.int .i64 X[j].un)∧w'.cell? ⟨b,o+j*7+4,none⟩=some (.int .i64 X[j].ad)∧w'.cell? ⟨b,o+j*7+5,none⟩=some (.int .i64 X[j].ph)∧w'.cell? ⟨b,o+j*7+6,none⟩=some (.string X[j].cb) from
    have q:=hcell j hj
    ⟨(h.cell (p:=⟨b,o+j*7,none⟩) hbl).trans q.1,(h.cell (p:=⟨b,o+j*7+1,none⟩) hbl).trans q.2.1,(h.cell (p:=⟨b,o+j*7+2,none⟩) hbl).trans q.2.2.1,(h.cell (p:=⟨b,o+j*7+3,none⟩) hbl).trans q.2.2.2.1,(h.cell (p:=⟨b,o+j*7+4,none⟩) hbl).trans q.2.2.2.2.1,(h.cell (p:=⟨b,o+j*7+5,none⟩) hbl).trans q.2.2.2.2.2.1,(h.cell (p:=⟨b,o+j*7+6,none⟩) hbl).trans q.2.2.2.2.2.2⟩)
   have HBl:=hj_ (fun (w':World) (h:Below w.heap.size w w')=>Nat.lt_of_lt_of_le hbl h.size)
   have i0:(0:Int)≤(k:Int):=o_
   have i1:(k:Int)<(X.length:Int):=o_
   have w0:IntKind.i64.wrap ((k:Int)+1)=(k:Int)+1:=IntWalk.i64_in _ o_
   have hSome:=hj_ (fun (h:fxE P X k≠0)=>HU.out.trans (q87 HAll.out h hlt))
   have hZero:=hj_ (fun (h:fxE P X k=0)=>q88 HAll.out h)
   have hAE:=fxE_al P X k;rw [qa1 hlt] at hAE;have HAE:=hj_ hAE;have HOk:=hj_ (fun j (hj:j<X.length) (h:j<k)=>show FxOK P X[j] from by have h2:=(fx_ok (HAll.out j h)).1;rw [qa1 hj] at h2;exact h2)
   have HOkk:=hj_ (show alE P X[k]=0→FxOK P X[k] from fun h=>al_ok h)
   have HAlk:=hj_ (HAl.out X[k] (List.getElem_mem hlt));have HOvk:=hj_ (fun j (hj:j<X.length)=>HOv.out X[j] X[k])
   have HSP:=hj_ (fun y:Fx=>show sameP X[k] y=(decide (y.ch=X[k].ch) && decide (y.pt=X[k].pt)) from rfl)
   clear hcell hAE;obtain ⟨p0,p1,p2,p3,p4,p5,p6⟩:=HCell.out _ hB k hlt;have hbw:=HBl.out _ hB;have HCk:=hj_ (fun (w':World) (h:Below w.heap.size w w')=>HCell.out w' h k hlt)
   generalize X[k]=x at *;generalize alE P x=al at *;obtain ⟨ch,pt,pr,un,ad,ph,cb⟩:=x;dsimp only at p0 p1 p2 p3 p4 p5 p6 HCk HSP;replace HAlk:=hj_ (show ∀ w',shPr.In w' A1 P.length P→Calls prog 115 #[.slice A1 P.length c1,.agg #[.int .i64 ch,.int .i64 pt,.string pr,.int .i64 un,.int .i64 ad,.int .i64 ph,.string cb]] w' fun e w''=>e=.returned (.int .i64 al)∧Below w'.heap.size w' w'' from HAlk.out)
   by_cases hq:al=0
   case neg =>
    have hAE:=HAE.out;rw [if_pos hq] at hAE;have hU:=hSome.out (by rw [hAE];exact hq)
    rw [hAE] at hU;subst hU;have g3:(E == 0)=false:=by simpa using hq
    have g4:(E != 0)=true:=by simpa using hq
    go_wp2_with fail;refine uq_ (HAlk.out _ (HP.out.below hB)) hB fun wk hB=>?_;go_wp2_with fail;go_ret;exact ⟨rfl,hB⟩
   subst hq;have hOkk:=HOkk.out rfl;have HOkk2:=hj_ hOkk;have hAE:=HAE.out;rw [if_neg (fun h=>h rfl)] at hAE
   replace HAE:=hj_ hAE;clear hAE HOkk hOkk;go_wp2_with fail;refine uq_ (HAlk.out _ (HP.out.below hB)) hB ?_;clear hB p0 p1 p2 p3 p4 p5 p6 hbw;intro wk hB;have HB1:=hj_ hB;go_wp2_with fail
   go_loopw [7] (fun iv w3=>∃ j:Nat,j≤k∧iv=.int .i64 j∧(∀ i (hi:i<X.length),i<j→sameP ⟨ch,pt,pr,un,ad,ph,cb⟩ X[i]=false)∧Below w.heap.size w w3) (fun iv _=>k-(intOf iv).toNat)
   case atStart=>exact ⟨0,Nat.zero_le _,rfl,fun i _ h=>absurd h (Nat.not_lt_zero _),HB1.out⟩
   case round =>
    clear hB;obtain ⟨j,hj,rfl,hno,hB⟩:=hrel;have HNo:=hj_ hno;clear hno
    by_cases hjk:j<k
    case pos =>
     have hjx:j<X.length:=o_
     obtain ⟨p0,p1,-,-,-,-,-⟩:=HCk.out _ hB;obtain ⟨q0,q1,-,-,-,-,-⟩:=HCell.out _ hB j hjx;have hbw:=HBl.out _ hB;have hsp:=HSP.out X[j];have HYes:=hj_ (fun (h:sameP ⟨ch,pt,pr,un,ad,ph,cb⟩ X[j]=true)=>q0o hjk (Nat.le_of_lt hlt) h)
     have HNext:=hj_ (fun (h:sameP ⟨ch,pt,pr,un,ad,ph,cb⟩ X[j]=false)=>show ∀ i (hi:i<X.length),i<j+1→sameP ⟨ch,pt,pr,un,ad,ph,cb⟩ X[i]=false from qj3 (p:=sameP ⟨ch,pt,pr,un,ad,ph,cb⟩) hjx HNo.out h)
     have j0:(0:Int)≤(j:Int):=o_
     have j1:(j:Int)<(X.length:Int):=o_
     have j2:(j:Int)<(k:Int):=o_
     have w1:IntKind.i64.wrap ((j:Int)+1)=(j:Int)+1:=IntWalk.i64_in _ o_
     generalize sameP ⟨ch,pt,pr,un,ad,ph,cb⟩ X[j]=sp at *;generalize X[j].ch=yc at *;generalize X[j].pt=yp at *
     by_cases h3:yc=ch
     ·have e1:(yc == ch)=true:=by simpa using h3
      rw [decide_eq_true h3,Bool.true_and] at hsp
      by_cases h4:yp=pt
      ·have e2:(yp == pt)=true:=by simpa using h4
       rw [decide_eq_true h4] at hsp;have hAE:=HAE.out;rw [if_pos (HYes.out hsp)] at hAE;have hU:=hSome.out (by rw [hAE];decide)
       rw [hAE] at hU;subst hU;clear h3 h4 hsp hAE HYes HNext;go_wp2_with fail;go_quiet (fail);replace hB:=q18 hB nq;go_wp2_with fail;go_ret;exact ⟨rfl,hB⟩
      ·have e2:(yp == pt)=false:=by simpa using h4
       rw [decide_eq_false h4] at hsp;have HN:=hj_ (HNext.out hsp);clear h3 h4 hsp HYes HNext;go_wp2_with fail;go_quiet (fail);replace hB:=q18 hB nq;go_wp2_with fail
       go_roundw
       case rel=>exact ⟨j+1,o_,by go_num,HN.out,hB⟩
       case measure=>simp [intOf];omega
     ·have e1:(yc == ch)=false:=by simpa using h3
      rw [decide_eq_false h3,Bool.false_and] at hsp;have HN:=hj_ (HNext.out hsp);clear h3 hsp HYes HNext;go_wp2_with fail;go_quiet (fail);replace hB:=q18 hB nq;go_wp2_with fail
      go_roundw
      case rel=>exact ⟨j+1,o_,by go_num,HN.out,hB⟩
      case measure=>simp [intOf];omega
    case neg =>
     obtain rfl:j=k:=o_
     have hAE:=HAE.out;rw [q0k (Nat.le_of_lt hlt) HNo.out,if_neg Bool.false_ne_true] at hAE;replace HAE:=hj_ hAE;have HB2:=hj_ hB;clear hAE HNo HSP;go_wp2_with fail
     go_loopw [8] (fun iv w3=>∃ i:Nat,i≤j∧iv=.int .i64 i∧(∀ m (hm:m<X.length),m<i→overB P ⟨ch,pt,pr,un,ad,ph,cb⟩ X[m]=false)∧Below w.heap.size w w3) (fun iv _=>j-(intOf iv).toNat)
     case atStart=>exact ⟨0,Nat.zero_le _,rfl,fun i _ h=>absurd h (Nat.not_lt_zero _),HB2.out⟩
     case round =>
      clear hB;obtain ⟨i,hi,rfl,hno,hB⟩:=hrel;have HNo:=hj_ hno;clear hno
      by_cases hij:i<j
      case pos =>
       have hix:i<X.length:=o_
       obtain ⟨p0,p1,p2,p3,p4,p5,p6⟩:=HCk.out _ hB;obtain ⟨q0,q1,q2,q3,q4,q5,q6⟩:=HCell.out _ hB i hix;have hbw:=HBl.out _ hB;have HYes:=hj_ (fun (h:overB P ⟨ch,pt,pr,un,ad,ph,cb⟩ X[i]=true)=>q0o hij (Nat.le_of_lt hlt) h)
       have HNext:=hj_ (fun (h:overB P ⟨ch,pt,pr,un,ad,ph,cb⟩ X[i]=false)=>show ∀ m (hm:m<X.length),m<i+1→overB P ⟨ch,pt,pr,un,ad,ph,cb⟩ X[m]=false from qj3 (p:=overB P ⟨ch,pt,pr,un,ad,ph,cb⟩) hix HNo.out h)
       have HCall:=hj_ (fun w hl=>HOvk.out i hix w hl (HOk.out i hix hij) HOkk2.out)
       have j0:(0:Int)≤(i:Int):=o_
       have j1:(i:Int)<(X.length:Int):=o_
       have j2:(i:Int)<(j:Int):=o_
       have w1:IntKind.i64.wrap ((i:Int)+1)=(i:Int)+1:=IntWalk.i64_in _ o_
       generalize X[i]=y at *;obtain ⟨ch',pt',pr',un',ad',ph',cb'⟩:=y;dsimp only at q0 q1 q2 q3 q4 q5 q6;generalize overB P ⟨ch,pt,pr,un,ad,ph,cb⟩ ⟨ch',pt',pr',un',ad',ph',cb'⟩=ov at *;replace HCall:=hj_ (show ∀ w',shPr.In w' A1 P.length P→Calls prog 116 #[.slice A1 P.length c1,.agg #[.int .i64 ch',.int .i64 pt',.string pr',.int .i64 un',.int .i64 ad',.int .i64 ph',.string cb'],.agg #[.int .i64 ch,.int .i64 pt,.string pr,.int .i64 un,.int .i64 ad,.int .i64 ph,.string cb]] w' fun e w''=>e=.returned (.bool ov)∧Below w'.heap.size w' w'' from HCall.out)
       cases ov with
       | true =>
        have hAE:=HAE.out;rw [if_pos (HYes.out rfl)] at hAE;have hU:=hSome.out (by rw [hAE];decide)
        rw [hAE] at hU;subst hU;clear hAE HYes HNext;go_wp2_with fail
        go_still_tail 9,k_
        change wpList _ _ _ _ _ wr.drew;replace hB:=hB.drew;generalize wr.drew=w8 at *;go_wp2_with fail;refine uq_ (HCall.out _ (HP.out.below hB)) hB fun wk hB=>?_;go_wp2_with fail;go_ret;exact ⟨rfl,hB⟩
       | false =>
        have HN:=hj_ (HNext.out rfl);clear HYes HNext;go_wp2_with fail
        go_still_tail 9,k_
        change wpList _ _ _ _ _ wr.drew;replace hB:=hB.drew;generalize wr.drew=w8 at *;go_wp2_with fail;refine uq_ (HCall.out _ (HP.out.below hB)) hB fun wk hB=>?_;go_wp2_with fail
        go_roundw
        case rel=>exact ⟨i+1,o_,by go_num,HN.out,hB⟩
        case measure=>simp [intOf];omega
      case neg =>
       obtain rfl:i=j:=o_
       have hAE:=HAE.out;rw [q0k (Nat.le_of_lt hlt) HNo.out,if_neg Bool.false_ne_true] at hAE;have HN:=hj_ (hZero.out hAE);clear hAE;go_wp2_with fail
       go_roundw
       case rel=>exact ⟨i+1,o_,by go_num,HN.out,hB⟩
       case measure=>simp [intOf];omega
def PsOK (PL:List (PC × List Fea)):Prop:=∀ x ∈ PL,x.1.n≤x.1.c∧x.1.c≤9223372036854775807∧x.1.s.size≤9223372036854775807
theorem qgu (P:List PC) (s:ByteArray):(0≤pcI P s)↔P.any (fun p=>decide (p.s=s))=true:=by
 have h:=qgv (P:=P) (s:=s);unfold pcF at h;rw [List.find?_eq_none] at h
 constructor
 ·intro h0
  cases ha:P.any (fun p=>decide (p.s=s)) with
  | true=>rfl
  | false =>
   rw [List.any_eq_false] at ha
   have:=h.2 (fun x hx=>ha x hx)
   omega
 ·intro ha
  obtain ⟨x,hx,hp⟩:=List.any_eq_true.1 ha;have hge:=pcI_ge P s
  by_cases h0:pcI P s<0
  ·exact absurd hp (h.1 h0 x hx)
  ·omega
theorem ql9 (A0:Option Addr) (n0 d0:Nat) (H:List Hd) (L:List (List PT)) (A1:Option Addr) (n1 d1:Nat) (PL:List (PC × List Fea)) (A2:Option Addr) (n2 d2:Nat) (X:List Fx) (w:World)
  (hl:InN w A0 n0 H L) (hm:∀ h ∈ H,h.n≤9223372036854775807) (hn0:n0≤9223372036854775807) (hp:InPs w A1 n1 PL) (hpo:PsOK PL) (hn1:n1≤9223372036854775806) (hnd1:n1≤d1) (hd1:d1≤9223372036854775807) (hx:shX.In w A2 n2 X) (hn2:n2≤9223372036854775806) (hcb:∀ x ∈ X,x.cb.size≤9223372036854775807) :
  Rt 38 #[.agg #[.slice A0 n0 d0,.slice A1 n1 d1,.slice A2 n2 d2]] w (.int .i64 (uniE L PL X)):=by
 have hn1l:n1=PL.length:=by have:=hp.1.1;simpa using this
 subst hn1l;have HAll9:=hj_ (fun w hl=>qkg A0 n0 d0 H L w hl hm hn0)
 have HPc:=hj_ (fun (x:PC × List Fea) (hx:x ∈ PL) (H':List FC) w h1 h2=>qkn x.1.s x.1.ft x.1.wa x.1.A x.1.n x.1.c H' x.2 A0 n0 d0 H L w (hpo x hx).2.2 h1 h2 hm hn0 (hpo x hx).1 (hpo x hx).2.1)
 have HPf:=hj_ (fun k P s w hl=>qna A1 k d1 P s w hl)
 have HPa:=hj_ (fun w h1 h2=>qn9 A2 n2 d2 X A1 PL.length d1 (PL.map Prod.fst) w h1 hn2 h2 hn1 hcb)
 have hU:uniE L PL X=if errA L≠0 then errA L else if 32<PL.length then 5 else if firstE (prE L PL) PL.length≠0 then firstE (prE L PL) PL.length else patE (PL.map Prod.fst) X:=rfl
 obtain ⟨E,hE⟩:=xe_ (uniE L PL X);rw [hE] at hU ⊢;generalize patE (PL.map Prod.fst) X=pe at *;have HU:=hj_ hU;obtain ⟨W,HW,HB0,HK⟩:=bx3 w (.slice A0 n0 d0) (.slice A1 PL.length d1) (.slice A2 n2 d2) 34;have hB:=Below.refl W.heap.size W;obtain ⟨c0,c1,c2⟩:=HK.out W hB;have HL:=hj_ (hl.below HB0.out);have HP:=hj_ (hp.below HB0.out);have HX:=hj_ (hx.below HB0.out);have HFin:=hj_ (fun (w':World) (h:Below W.heap.size W w')=>ht_ HB0.out h)
 have HNd:=hj_ (And.intro hnd1 hd1);clear hl hp hx hm hn2 hcb hE hU hpo hnd1 hd1 hn0
 by_cases hea:errA L=0
 case neg =>
  have hU:=HU.out;rw [if_pos hea] at hU;generalize errA L=ea at *;subst hU;have g1:(E == 0)=false:=by simpa using hea
  have g2:(E != 0)=true:=by simpa using hea
  go_enter func38,ntmps38
  go_wp2_with fail;rw [← HW.out];refine uq_ (HAll9.out _ (HL.out.below hB)) hB fun wk hB=>?_;obtain ⟨c0,c1,c2⟩:=HK.out _ hB;go_wp2_with fail;go_ret;exact ⟨rfl,ht_ HB0.out hB⟩
 have hU:=HU.out;rw [if_neg (fun h=>h hea)] at hU
 rw [hea] at HAll9
 by_cases h32:32<PL.length
 ·rw [if_pos h32] at hU
  subst hU;have i2:(32:Int)<(PL.length:Int):=o_
  clear hea
  go_enter func38,ntmps38
  go_wp2_with fail;rw [← HW.out];refine uq_ (HAll9.out _ (HL.out.below hB)) hB fun wk hB=>?_;obtain ⟨c0,c1,c2⟩:=HK.out _ hB;go_wp2_with fail;go_ret;exact ⟨rfl,ht_ HB0.out hB⟩
 rw [if_neg h32] at hU;have i2:¬ (32:Int)<(PL.length:Int):=o_
 replace HU:=hj_ hU;clear hU hea
 go_enter func38,ntmps38
 go_wp2_with fail;rw [← HW.out];refine uq_ (HAll9.out _ (HL.out.below hB)) hB fun wk hB=>?_;obtain ⟨c0,c1,c2⟩:=HK.out _ hB;have HB5:=hj_ hB;go_wp2_with fail
 go_loopw [4] (fun iv w2=>∃ k:Nat,k≤PL.length∧iv=.int .i64 k∧(∀ j,j<k→prE L PL j=0)∧Below W.heap.size W w2) (fun iv _=>PL.length-(intOf iv).toNat)
 case atStart=>exact ⟨0,Nat.zero_le _,rfl,fun j h=>absurd h (Nat.not_lt_zero _),HB5.out⟩
 case round =>
  clear hB;obtain ⟨k,hk,rfl,hall,hB⟩:=hrel;have HAll:=hj_ hall;clear hall;obtain ⟨c0,c1,c2⟩:=HK.out _ hB
  by_cases hlt:k<PL.length
  case pos =>
   have hkm:k<(PL.map Prod.fst).length:=by simpa using hlt
   obtain ⟨b,o,rfl,hbl,hcell⟩:=pc_at HP.out.1 o_
   have hk4:=hcell k hkm;rw [List.getElem_map] at hk4;have HC:=hj_ (fun (w':World) (h:Below W.heap.size W w')=>show w'.cell? ⟨b,o+k*4,none⟩=some (.string PL[k].1.s)∧w'.cell? ⟨b,o+k*4+1,none⟩=some (.int .i64 PL[k].1.ft)∧w'.cell? ⟨b,o+k*4+2,none⟩=some (.int .i64 PL[k].1.wa)∧w'.cell? ⟨b,o+k*4+3,none⟩=some (.slice PL[k].1.A PL[k].1.n PL[k].1.c) from ⟨(h.cell (p:=⟨b,o+k*4,none⟩) hbl).trans hk4.1,(h.cell (p:=⟨b,o+k*4+1,none⟩) hbl).trans hk4.2.1,(h.cell (p:=⟨b,o+k*4+2,none⟩) hbl).trans hk4.2.2.1,(h.cell (p:=⟨b,o+k*4+3,none⟩) hbl).trans hk4.2.2.2⟩)
   have HBl:=hj_ (fun (w':World) (h:Below W.heap.size W w')=>Nat.lt_of_lt_of_le hbl h.size)
   obtain ⟨H',hH'⟩:=HP.out.2 _ (List.getElem_mem hlt);have hPE:prE L PL k=if profE PL[k].1.s PL[k].1.ft PL[k].1.wa PL[k].2 L≠0 then profE PL[k].1.s PL[k].1.ft PL[k].1.wa PL[k].2 L else if (PL.take k).any (fun x=>decide (x.1.s=PL[k].1.s)) then 7 else 0:=by
    unfold prE;rw [qa1 hlt]
   have hma:(PL.take k).any (fun x=>decide (x.1.s=PL[k].1.s))=decide (0≤pcI ((PL.map Prod.fst).take k) PL[k].1.s):=by
    rw [Bool.eq_iff_iff,decide_eq_true_eq,qgu,← List.map_take,List.any_map]
    rfl
   rw [hma] at hPE;have hSome:=hj_ (fun (h:prE L PL k≠0)=>q87 HAll.out h hlt)
   have hZero:=hj_ (fun (h:prE L PL k=0)=>q88 HAll.out h)
   have i0:(0:Int)≤(k:Int):=o_
   have i1:(k:Int)<(PL.length:Int):=o_
   have i3:(k:Int)≤(d1:Int):=by have:=HNd.out;omega
   have i4:k≤d1:=o_
   have w0:IntKind.i64.wrap ((k:Int)+1)=(k:Int)+1:=IntWalk.i64_in _ o_
   have HPx:=hj_ (fun w=>HPc.out PL[k] (List.getElem_mem hlt) H' w)
   have HH:=hj_ (fun (w':World) (h:Below W.heap.size W w')=>hH'.below h)
   have HTk:=hj_ (fun (w':World) (h:Below W.heap.size W w')=>(HP.out.below h).1.take k o_)
   have HPk:=hj_ (fun w' (h:Below W.heap.size W w')=>HPf.out k ((PL.map Prod.fst).take k) PL[k].1.s w' (HTk.out w' h) o_)
   clear hcell hH' hma hk4;generalize PL[k]=x at *;obtain ⟨⟨xs,xf,xw,xA,xn,xc⟩,xl⟩:=x;dsimp only at HC hPE HPx HH HPk;generalize profE xs xf xw xl L=q at *;generalize pcI ((PL.map Prod.fst).take k) xs=K at *;obtain ⟨p0,p1,p2,p3⟩:=HC.out _ hB;have hbw:=HBl.out _ hB
   by_cases hq:q=0
   case neg =>
    rw [if_pos hq] at hPE;have hU:=HU.out;rw [hSome.out (by rw [hPE];exact hq),hPE,if_pos hq] at hU
    subst hU;have g1:(E == 0)=false:=by simpa using hq
    have g2:(E != 0)=true:=by simpa using hq
    go_wp2_with fail
    go_still_tail 7,k_
    change wpList _ _ _ _ _ wr.drew;replace hB:=hB.drew;generalize wr.drew=w8 at *;go_wp2_with fail;refine uq_ (HPx.out _ (HH.out _ hB) (HL.out.below hB)) hB fun wk hB=>?_;go_wp2_with fail;go_ret;exact ⟨rfl,ht_ HB0.out hB⟩
   case pos =>
    subst hq;rw [if_neg (fun h=>h rfl)] at hPE
    by_cases hK:0≤K
    ·rw [if_pos (by simpa using hK)] at hPE
     have hU:=HU.out;rw [hSome.out (by rw [hPE];decide),hPE,if_pos d_] at hU
     subst hU;go_wp2_with fail
     go_still_tail 7,k_
     change wpList _ _ _ _ _ wr.drew;replace hB:=hB.drew;generalize wr.drew=w8 at *;go_wp2_with fail;refine uq_ (HPx.out _ (HH.out _ hB) (HL.out.below hB)) hB fun wk hB=>?_;obtain ⟨c0,c1,c2⟩:=HK.out _ hB;obtain ⟨p0,p1,p2,p3⟩:=HC.out _ hB;have hbw:=HBl.out _ hB;go_wp2_with fail
     go_still_tail 10,k_
     change wpList _ _ _ _ _ wk.drew;replace hB:=hB.drew;generalize wk.drew=w9 at *;go_wp2_with fail;refine uq_ (HPk.out _ hB) hB fun wk hB=>?_;go_wp2_with fail;go_ret;exact ⟨rfl,ht_ HB0.out hB⟩
    ·rw [if_neg (by simpa using hK)] at hPE
     have HNx:=hj_ (hZero.out hPE);go_wp2_with fail
     go_still_tail 7,k_
     change wpList _ _ _ _ _ wr.drew;replace hB:=hB.drew;generalize wr.drew=w8 at *;go_wp2_with fail;refine uq_ (HPx.out _ (HH.out _ hB) (HL.out.below hB)) hB fun wk hB=>?_;obtain ⟨c0,c1,c2⟩:=HK.out _ hB;obtain ⟨p0,p1,p2,p3⟩:=HC.out _ hB;have hbw:=HBl.out _ hB;go_wp2_with fail
     go_still_tail 10,k_
     change wpList _ _ _ _ _ wk.drew;replace hB:=hB.drew;generalize wk.drew=w9 at *;go_wp2_with fail;refine uq_ (HPk.out _ hB) hB fun wk hB=>?_;go_wp2_with fail
     go_roundw
     case rel=>exact ⟨k+1,hlt,by go_num,HNx.out,hB⟩
     case measure=>simp [intOf];omega
  case neg =>
   obtain rfl:k=PL.length:=o_
   have hU:=HU.out;rw [q86 HAll.out,if_neg (fun h=>h rfl)] at hU
   subst hU;go_wp2_with fail;refine uq_ (HPa.out _ (HX.out.below hB) (HP.out.below hB).1) hB fun wk hB=>?_;go_wp2_with fail;go_ret;exact ⟨rfl,ht_ HB0.out hB⟩
section
open Go.ChangeShapes Go.WideShapes Go.ChangeAt Go.RowKit Go.Deep
def Fx.good (x:Fx):Prop:=x.pr.size≤maxLen∧x.cb.size≤maxLen
theorem cells7 {cs:List Value} (h:cs.length=7):∃ a b c d e f g,cs=[a,b,c,d,e,f,g]:=by
 match cs,h with
 | [a,b,c,d,e,f,g],_=>exact ⟨a,b,c,d,e,f,g,rfl⟩
structure RG where
 A0:Option Addr
 n0:Nat
 d0:Nat
 A1:Option Addr
 n1:Nat
 d1:Nat
 A2:Option Addr
 n2:Nat
 d2:Nat
def RG.cs (g:RG):List Value:=[.slice g.A0 g.n0 g.d0,.slice g.A1 g.n1 g.d1,.slice g.A2 g.n2 g.d2]
def RG.Is (w:World) (g:RG) (H:List Hd) (L:List (List PT)) (PL:List (PC × List Fea)) (X:List Fx):Prop :=
 (InN w g.A0 g.n0 H L∧(∀ h ∈ H,h.n≤9223372036854775807)∧g.n0≤9223372036854775807)∧(InR w g.A1 g.n1 PL∧PsOK PL∧g.n1≤g.d1∧g.d1≤9223372036854775807)∧shX.In w g.A2 g.n2 X∧(g.n2≤g.d2∧g.d2≤9223372036854775807)∧∀ x ∈ X,x.cb.size≤9223372036854775807
def RG.good (w:World) (g:RG):Prop:=∃ H L PL X,g.Is w H L PL X
theorem qiv:∀ {P:List PC},shPr.In w A n P→(∀ p ∈ P,p.good w)→∃ PL,InR w A n PL∧PsOK PL:=by
 intro P hl hg;have key:∀ K:List PC,(∀ p ∈ K,p.good w)→∃ PL:List (PC × List Fea),PL.map Prod.fst=K∧∀ x ∈ PL,(∃ H,InF w x.1.A x.1.n H x.2∧∀ i (h:i<H.length) (h':i<x.2.length),FW w H[i] x.2[i].wh)∧x.1.n≤9223372036854775807∧x.1.n≤x.1.c∧x.1.c≤9223372036854775807∧x.1.s.size≤9223372036854775807:=by
  intro K
  induction K with
  | nil=>intro _;exact ⟨[],rfl,fun x h=>absurd h (List.not_mem_nil)⟩
  | cons p K ih =>
   intro h;obtain ⟨hs,⟨h1,h2,h3⟩,H,l,hi⟩:=h p (List.mem_cons_self ..);obtain ⟨PL,e,hr⟩:=ih (fun g hg=>h g (List.mem_cons_of_mem _ hg))
   refine ⟨(p,l) :: PL,by rw [List.map_cons,e],fun x hx=>?_⟩
   rcases List.mem_cons.1 hx with rfl | hx
   ·unfold maxLen at h1 h3 hs
    exact ⟨⟨H,hi.1,hi.2⟩,by show p.n≤_;omega,h2,by show p.c≤_;omega,by show p.s.size≤_;omega⟩
   ·exact hr x hx
 obtain ⟨PL,e,hr⟩:=key P hg;exact ⟨PL,⟨by rw [e];exact hl,fun x hx=>⟨(hr x hx).1,(hr x hx).2.1⟩⟩,fun x hx=>(hr x hx).2.2⟩
section
variable {HH:Type} {enc:TypeId × Value→HH} {w:World} {base:Nat} {spare:Nat→Bool} {held:Bool}
theorem q8l {cs:List Value} {x:DataW HH × List MemPlace} (h:DataW.trod enc prog w base spare held fuel 45 cs=some x):∃ g:Fx,cs=shX.cs g∧g.good:=by
 obtain ⟨hl,hf⟩:=qt7 (fs:=prog.fieldsOf 45) k_ h
 rw [show prog.cellsOf 45=7 by kernel_rfl] at hl
 rw [show (prog.fieldsOf 45).map (fun f=>(f.type,f.offset))=#[(3,0),(3,1),(9,2),(3,3),(3,4),(3,5),(9,6)] by kernel_rfl] at hf
 obtain ⟨a0,a1,a2,a3,a4,a5,a6,rfl⟩:=cells7 hl;obtain ⟨n0,y0,h0⟩:=hf 0 _ _ rfl;obtain ⟨n1,y1,h1⟩:=hf 1 _ _ rfl;obtain ⟨n2,y2,h2⟩:=hf 2 _ _ rfl;obtain ⟨n3,y3,h3⟩:=hf 3 _ _ rfl;obtain ⟨n4,y4,h4⟩:=hf 4 _ _ rfl;obtain ⟨n5,y5,h5⟩:=hf 5 _ _ rfl;obtain ⟨n6,y6,h6⟩:=hf 6 _ _ rfl;rw [q2d] at h0 h1 h3 h4 h5;rw [show prog.cellsOf 9=1 by kernel_rfl] at h2 h6
 obtain ⟨x0,rfl,_⟩:=trod_i h0;obtain ⟨x1,rfl,_⟩:=trod_i h1;obtain ⟨s2,rfl,g2⟩:=qt8 h2;obtain ⟨x3,rfl,_⟩:=trod_i h3;obtain ⟨x4,rfl,_⟩:=trod_i h4;obtain ⟨x5,rfl,_⟩:=trod_i h5;obtain ⟨s6,rfl,g6⟩:=qt8 h6;exact ⟨⟨x0,x1,s2,x3,x4,x5,s6⟩,rfl,g2,g6⟩
theorem q41 {y:DataW HH × List MemPlace} (h:DataW.trod enc prog w base spare held n 22 [v]=some y):∃ A m c,v=.slice A m c∧m≤maxLen∧∃ H L,InN w A m H L∧∀ h ∈ H,h.n≤maxLen:=by
 have key:∀ A m c,v=.slice A m c→∃ A m c,v=.slice A m c∧m≤maxLen∧∃ H L,InN w A m H L∧∀ h ∈ H,h.n≤maxLen:=fun A m c e=>by
  subst e;obtain ⟨H,hl,hg,hn,_⟩:=qfc shH underlying22 (by kernel_rfl:prog.cellsOf 156=shH.z) d_ ⟨none,0,0⟩ _ (fun _ _ _ h=>q40 h) h
  obtain ⟨L,hL⟩:=q42 hl hg;exact ⟨A,m,c,rfl,hn,H,L,hL,fun h hh=>(hg h hh).2⟩
 rcases open_slice underlying22 h with ⟨h1,_⟩ | ⟨a,len,cap,m,k,D,Pl,hcs,_⟩
 ·simp at h1;exact key _ _ _ h1
 ·simp at hcs;exact key _ _ _ hcs
theorem qiu {y:DataW HH × List MemPlace} (h:DataW.trod enc prog w base spare held n 23 [v]=some y):∃ A m c,v=.slice A m c∧(m≤c∧c≤maxLen)∧∃ PL,InR w A m PL∧PsOK PL:=by
 have key:∀ A m c,v=.slice A m c→∃ A m c,v=.slice A m c∧(m≤c∧c≤maxLen)∧∃ PL,InR w A m PL∧PsOK PL:=fun A m c e=>by
  subst e;obtain ⟨P,hl,hg,_,_⟩:=qfc shPr underlying23 (by kernel_rfl:prog.cellsOf 87=shPr.z) d_ pc0 _ (fun _ _ _ h=>qir h) h
  obtain ⟨PL,h1,h2⟩:=qiv hl hg;exact ⟨A,m,c,rfl,qfb underlying23 h,PL,h1,h2⟩
 rcases open_slice underlying23 h with ⟨h1,_⟩ | ⟨a,len,cap,m,k,D,Pl,hcs,_⟩
 ·simp at h1;exact key _ _ _ h1
 ·simp at hcs;exact key _ _ _ hcs
theorem q8m {y:DataW HH × List MemPlace} (h:DataW.trod enc prog w base spare held n 24 [v]=some y):∃ A m c,v=.slice A m c∧(m≤c∧c≤maxLen)∧∃ X,shX.In w A m X∧∀ x ∈ X,x.good:=by
 have key:∀ A m c,v=.slice A m c→∃ A m c,v=.slice A m c∧(m≤c∧c≤maxLen)∧∃ X,shX.In w A m X∧∀ x ∈ X,x.good:=fun A m c e=>by
  subst e;obtain ⟨X,hl,hg,_,_⟩:=qfc shX underlying24 (by kernel_rfl:prog.cellsOf 45=shX.z) d_ fx0 _ (fun _ _ _ h=>q8l h) h
  exact ⟨A,m,c,rfl,qfb underlying24 h,X,hl,hg⟩
 rcases open_slice underlying24 h with ⟨h1,_⟩ | ⟨a,len,cap,m,k,D,Pl,hcs,_⟩
 ·simp at h1;exact key _ _ _ h1
 ·simp at hcs;exact key _ _ _ hcs
theorem qmc {cs:List Value} {x:DataW HH × List MemPlace} (h:DataW.trod enc prog w base spare held fuel 26 cs=some x):∃ g:RG,cs=g.cs∧g.good w:=by
 obtain ⟨hl,hf⟩:=qt7 (fs:=prog.fieldsOf 26) k_ h
 rw [show prog.cellsOf 26=3 by kernel_rfl] at hl
 rw [show (prog.fieldsOf 26).map (fun f=>(f.type,f.offset))=#[(22,0),(23,1),(24,2)] by kernel_rfl] at hf
 obtain ⟨a0,a1,a2,rfl⟩:=cells3 hl;obtain ⟨n0,y0,h0⟩:=hf 0 _ _ rfl;obtain ⟨n1,y1,h1⟩:=hf 1 _ _ rfl;obtain ⟨n2,y2,h2⟩:=hf 2 _ _ rfl;rw [show prog.cellsOf 22=1 by kernel_rfl] at h0
 rw [show prog.cellsOf 23=1 by kernel_rfl] at h1
 rw [show prog.cellsOf 24=1 by kernel_rfl] at h2
 obtain ⟨A0,m0,c0,rfl,e0,H,L,hL,hm⟩:=q41 h0;obtain ⟨A1,m1,c1,rfl,e1,PL,hP,hO⟩:=qiu h1;obtain ⟨A2,m2,c2,rfl,e2,X,hX,hG⟩:=q8m h2;unfold maxLen at e0 e1 e2;refine ⟨⟨A0,m0,c0,A1,m1,c1,A2,m2,c2⟩,rfl,H,L,PL,X,⟨hL,fun h hh=>?_,by show m0≤_;omega⟩,⟨hP,hO,e1.1,by show c1≤_;omega⟩,hX,⟨e2.1,by show c2≤_;omega⟩,fun x hx=>?_⟩
 ·have:=hm h hh;unfold maxLen at this;omega
 ·have:=(hG x hx).2;unfold maxLen at this;omega
end
theorem RG.Is.below {g:RG} {H:List Hd} {X:List Fx} (h:g.Is w H L PL X) (hb:Below w.heap.size w w'):g.Is w' H L PL X :=
 ⟨⟨h.1.1.below hb,h.1.2⟩,⟨h.2.1.1.below hb,h.2.1.2⟩,h.2.2.1.below hb,h.2.2.2⟩
end
def fewAm (l:List Am):Bool:=decide (l.length≤40) && l.all fun a=>decide (a.lev.size≤80)
theorem q7n {l:List Am} (hk:k<l.length) (h:¬ l[k].lev.size≤80):fewAm l=false:=by
 unfold fewAm;rw [Bool.and_eq_false_iff]
 right
 rw [List.all_eq_false];exact ⟨l[k],List.getElem_mem hk,by simpa using h⟩
theorem q7p {l:List Am} (h:¬ l.length≤40):fewAm l=false:=by unfold fewAm;rw [decide_eq_false h];rfl
theorem q7m {l:List Am} (h40:l.length≤40) (h:∀ i (h:i<l.length),l[i].lev.size≤80):fewAm l=true:=by
 unfold fewAm;rw [decide_eq_true h40,Bool.true_and,List.all_eq_true];intro x hx;obtain ⟨i,hi,rfl⟩:=List.getElem_of_mem hx;exact decide_eq_true (h i hi)
theorem qm4 (A:Option Addr) (n c:Nat) (l:List Am) (w:World) (hl:shAm.In w A n l) (hn:n≤9223372036854775806) :
  Rt 23 #[.slice A n c] w (.bool (fewAm l)):=by
 obtain ⟨rfl,_⟩:=id hl;have HL:=hj_ hl;obtain ⟨E,hE⟩:=ex_ (fewAm l);rw [← hE];have HE:=hj_ hE;clear hl hE
 go_enter func23,ntmps23
 go_wp2_with fail
 go_loopw [3] (fun iv wr=>∃ k:Nat,k≤l.length∧k≤40∧iv=.int .i64 k∧(∀ i (h:i<l.length),i<k→l[i].lev.size≤80)∧Below w.heap.size w wr) (fun iv _=>l.length-(intOf iv).toNat)
 case atStart=>exact ⟨0,Nat.zero_le _,Nat.zero_le _,rfl,fun i _ h=>absurd h (Nat.not_lt_zero _),br_⟩
 case round =>
  obtain ⟨k,hk,hk4,rfl,hall,hB⟩:=hrel;have HAll:=hj_ hall;clear hall
  by_cases hlt:k<l.length
  ·by_cases h40:k<40
   ·obtain ⟨b,o,rfl,hbl,hcell⟩:=am_at HL.out o_
    have p2:=(hB.cell (p:=⟨b,o+k*3+2,none⟩) hbl).trans (hcell k hlt).2.2;have hbw:b<wr.heap.size:=Nat.lt_of_lt_of_le hbl hB.size;have HN:=hj_ (show (¬ l[k].lev.size≤80→fewAm l=false)∧(l[k].lev.size≤80→∀ i (h:i<l.length),i<k+1→l[i].lev.size≤80) from ⟨fun h=>q7n hlt h,fun h i hi hik=>by
     rcases Nat.lt_or_eq_of_le (Nat.le_of_lt_succ hik) with h1 | h1
     ·exact HAll.out i hi h1
     ·subst h1;exact h⟩)
    clear hcell;generalize l[k].lev=s at *;have i1:(k:Int)<(l.length:Int):=o_
    have i2:(k:Int)<40:=o_
    have i3:(0:Int)≤(k:Int):=o_
    have w0:IntKind.i64.wrap ((k:Int)+1)=(k:Int)+1:=IntWalk.i64_in _ o_
    by_cases hm:s.size≤80
    ·have HN2:=hj_ (HN.out.2 hm)
     have j1:¬ (80:Int)<(s.size:Int):=o_
     clear HN hm;go_wp2_with fail
     go_roundw
     case rel=>exact ⟨k+1,o_,o_,by go_num,HN2.out,hB⟩
     case measure=>simp [intOf];omega
    ·have hf:E=false:=HE.out.trans (HN.out.1 hm)
     have j1:(80:Int)<(s.size:Int):=o_
     subst hf;clear HN hm;go_wp2_with fail;go_ret;exact ⟨rfl,hB⟩
   ·obtain rfl:k=40:=by omega
    have hf:E=false:=HE.out.trans (q7p o_)
    subst hf;have i1:(40:Int)<(l.length:Int):=o_
    have i2:¬ (l.length:Int)≤40:=o_
    have i3:decide ((l.length:Int)≤40)=false:=decide_eq_false i2;go_wp2_with fail;go_ret;exact ⟨rfl,hB⟩
  ·obtain rfl:k=l.length:=by omega
   have hf:E=true:=HE.out.trans (q7m hk4 fun i hi=>HAll.out i hi hi)
   subst hf;have i2:(l.length:Int)≤40:=o_
   have i3:decide ((l.length:Int)≤40)=true:=decide_eq_true i2;go_wp2_with fail;go_ret;exact ⟨rfl,hB⟩
end Go.Proofs.YtabhjdmmfdfpeaaGreatDoor
