/- Lemmas. -/
import Derived.Test.YtabhjdmmfdfpeaaGreatDoorKUniB
import Derived.Test.YtabhjdmmfdfpeaaGreatDoorKGlide
import Derived.WalkSpells
namespace Go.Proofs.YtabhjdmmfdfpeaaGreatDoor
set_option maxHeartbeats 32000000
set_option maxRecDepth 100000
open _root_.Go.Proofs.Tryz
open Go.RowKit
variable {v:Int} {w:World}
def pr0:PC × List Fea:=(pc0,[])
def prE (L:List (List PT)) (PL:List (PC × List Fea)) (i:Nat):Int :=
 if profE (PL.getD i pr0).1.s (PL.getD i pr0).1.ft (PL.getD i pr0).1.wa (PL.getD i pr0).2 L≠0 then profE (PL.getD i pr0).1.s (PL.getD i pr0).1.ft (PL.getD i pr0).1.wa (PL.getD i pr0).2 L
 else if (PL.take i).any (fun x=>decide (x.1.s=(PL.getD i pr0).1.s)) then 7 else 0
theorem qd3 {κ:Type} [DecidableEq κ] (l:List κ) (k:κ):lookL (setL l) k=if l.any (fun y=>decide (y=k)) then some (.bool true) else none:=by
 rw [qd6]
 by_cases h:k ∈ l
 ·rw [if_pos h,if_pos (List.any_eq_true.2 ⟨k,h,s_⟩)]
 ·rw [if_neg h,if_neg (fun e=>by
   obtain ⟨y,hy,hk⟩:=List.any_eq_true.1 e;exact h (by have:=of_decide_eq_true hk;subst this;exact hy))]
theorem qd7 {κ:Type} [DecidableEq κ] (l:List κ) (k:κ):lookV false (setL l) k (.bool false)=.bool (l.any fun y=>decide (y=k)):=by
 unfold lookV;rw [qd3]
 cases l.any fun y=>decide (y=k) <;> rfl
def uniE (L:List (List PT)) (PL:List (PC × List Fea)) (X:List Fx):Int :=
 if errA L≠0 then errA L else if 32<PL.length then 5 else if firstE (prE L PL) PL.length≠0 then firstE (prE L PL) PL.length else patE (PL.map Prod.fst) X
def InPs (w:World) (A:Option Addr) (n:Nat) (PL:List (PC × List Fea)):Prop :=
 shPr.In w A n (PL.map Prod.fst)∧∀ x ∈ PL,∃ H,InP w x.1.A x.1.n H x.2
theorem InPs.below {w':World} {A:Option Addr} {n:Nat} {PL:List (PC × List Fea)} (h:InPs w A n PL) (hb:Below w.heap.size w w'):InPs w' A n PL :=
 ⟨h.1.below hb,fun x hx=>(h.2 x hx).imp fun _ hi=>hi.below hb⟩
theorem qtm (A0:Option Addr) (n0 d0:Nat) (H:List Hd) (L:List (List PT)) (A1:Option Addr) (n1 d1:Nat) (PL:List (PC × List Fea)) (A2:Option Addr) (n2 d2:Nat) (X:List Fx) (w:World)
  (hl:InN w A0 n0 H L) (hm:∀ h ∈ H,h.n≤9223372036854775807) (hp:InPs w A1 n1 PL) (hn1:n1≤9223372036854775806) (hx:shX.In w A2 n2 X) (hn2:n2≤d2) (hd2:d2≤9223372036854775807) (hcb:∀ x ∈ X,x.cb.size≤9223372036854775807) :
  Rt 62 #[.agg #[.slice A0 n0 d0,.slice A1 n1 d1,.slice A2 n2 d2]] w (.int .i64 (uniE L PL X)):=by
 obtain ⟨rfl,_⟩:=id hl.1;have hn1l:n1=PL.length:=by have:=hp.1.1;simpa using this
 subst hn1l;have HLen:=hj_ hl.2.1;have HMx:=hj_ hm;have HPc:=hj_ (fun (x:PC × List Fea) (H':List FC) w h1 h2=>qfz x.1.s x.1.ft x.1.wa x.1.A x.1.n x.1.c H' x.2 A0 H.length d0 H L w h1 h2 hm)
 have HPa:=hj_ (fun w h1 h2=>qy1 A2 n2 d2 A1 PL.length d1 (PL.map Prod.fst) X w h1 hn2 hd2 h2 hn1 hcb)
 have hU:uniE L PL X=if errA L≠0 then errA L else if 32<PL.length then 5 else if firstE (prE L PL) PL.length≠0 then firstE (prE L PL) PL.length else patE (PL.map Prod.fst) X:=rfl
 obtain ⟨E,hE⟩:=xe_ (uniE L PL X);rw [hE] at hU ⊢;generalize patE (PL.map Prod.fst) X=pe at *;have HU:=hj_ hU;obtain ⟨W,HW,HB0,HK⟩:=bx3 w (.slice A0 H.length d0) (.slice A1 PL.length d1) (.slice A2 n2 d2) 26;have hB:=Below.refl W.heap.size W;obtain ⟨c0,c1,c2⟩:=HK.out W hB;have HL:=hj_ (hl.below HB0.out);have HP:=hj_ (hp.below HB0.out);have HX:=hj_ (hx.below HB0.out);have hmm:∀ w,(Instr.makeMap 166 none).run prog w=.ok (.map (some w.heap.size)) (w.alloc (.map #[] 0)):=fun w=>run_makeMap _ w
 clear hl hp hx hm hn1 hn2 hd2 hcb hE hU
 by_cases h16:16<H.length
 ·have e:errA L=5:=by unfold errA;rw [if_pos (by rw [← HLen.out];exact h16)]
  have hU:=HU.out;rw [e,if_pos d_] at hU
  subst hU;have i1:(16:Int)<(H.length:Int):=o_
  clear e
  go_enter func62,ntmps62
  go_wp2_with fail;rw [← HW.out];go_wp2_with fail;go_ret;exact ⟨rfl,ht_ HB0.out hB⟩
 have HEA:=hj_ (show errA L=allE L by unfold errA;rw [if_neg (by rw [← HLen.out];exact h16)])
 have i1:¬ (16:Int)<(H.length:Int):=o_
 go_enter func62,ntmps62
 go_wp2_with fail;rw [← HW.out]
 go_loopw [17] (fun iv wr=>∃ k:Nat,k≤H.length∧iv=.int .i64 k∧allE (L.drop k)=allE L∧Below W.heap.size W wr) (fun iv _=>H.length-(intOf iv).toNat)
 case atStart=>exact ⟨0,Nat.zero_le _,rfl,rfl,br_⟩
 case round =>
  obtain ⟨k,hk,rfl,hall,hB⟩:=hrel;have HAll:=hj_ hall;clear hall;obtain ⟨c0,c1,c2⟩:=HK.out _ hB
  by_cases hlt:k<H.length
  case pos =>
   obtain ⟨b,o,rfl,hbl,hcell⟩:=hd_at HL.out.1 o_
   have hk2:k<L.length:=by rw [← HLen.out];exact hlt
   have hq:=HL.out.2.2 k hlt hk2;have hp:=(hB.cell (p:=⟨b,o+k,none⟩) hbl).trans (hcell k hlt);have hbw:b<wr.heap.size:=Nat.lt_of_lt_of_le hbl hB.size;obtain ⟨s1,s2⟩:=q0d HAll.out hk2;have HS1:=hj_ s1;have HS2:=hj_ s2;have hm:=HMx.out _ (List.getElem_mem hlt);have HC:=hj_ (fun (w:World) (hl:shP.In w H[k].A H[k].n L[k])=>q29 H[k].A H[k].n H[k].c L[k] w hl hm)
   have HQ:=hj_ (hq.below hB);clear s1 s2 hq hm;generalize H[k].A=a at *;generalize H[k].n=m at *;generalize H[k].c=d at *;generalize chkC L[k]=q at *;generalize L[k]=cu at *;have i1:(k:Int)<(H.length:Int):=o_
   have i3:(0:Int)≤(k:Int):=o_
   clear hcell hk2
   by_cases hq:q=0
   ·have HN2:=hj_ (HS2.out hq)
    subst hq;clear HS1 HS2;go_wp2_with fail;refine uq_ (HC.out _ HQ.out) hB fun wk hB=>?_;go_wp2_with fail
    go_roundw
    case rel=>exact ⟨k+1,o_,by go_num,HN2.out,hB⟩
    case measure=>simp [intOf];omega
   ·have hU:=HU.out
    rw [HEA.out,HS1.out hq,if_pos hq] at hU;subst hU;have g1:(E == 0)=false:=by simpa using hq
    have g2:(E != 0)=true:=by simpa using hq
    clear HS1 HS2 hq;go_wp2_with fail;refine uq_ (HC.out _ HQ.out) hB fun wk hB=>?_;go_wp2_with fail;go_ret;exact ⟨rfl,ht_ HB0.out hB⟩
  case neg =>
   obtain rfl:k=H.length:=o_
   have eA:errA L=0:=HEA.out.trans (q0b HAll.out (by rw [HLen.out];omega))
   have hU:=HU.out;rw [eA,if_neg (fun h=>h rfl)] at hU
   clear eA HAll HMx HLen hk hlt
   by_cases h32:32<PL.length
   ·rw [if_pos h32] at hU
    subst hU;have i2:(32:Int)<(PL.length:Int):=o_
    go_wp2_with fail;go_ret;exact ⟨rfl,ht_ HB0.out hB⟩
   rw [if_neg h32] at hU;have i2:¬ (32:Int)<(PL.length:Int):=o_
   replace HU:=hj_ hU;clear hU
   rename World=>V
   have hs5:w.heap.size<V.heap.size:=Nat.lt_of_lt_of_le (by rw [HW.out];simp) hB.size
   have n5:¬ w.heap.size=V.heap.size:=o_
   obtain ⟨W5,hW5⟩:=ex_ (V.alloc (.map #[] 0));have hb5:Below V.heap.size V W5:=by rw [hW5];exact (br_).alloc lr_ _
   have HB5:=hj_ (ht_ hB hb5);have HM5:=hj_ (show MapAt sK W5 V.heap.size [] by rw [hW5];exact MapAt.made sK V)
   have HW5:=hj_ hW5;have HQs:=hj_ (show W.heap.size≤V.heap.size from hB.size)
   clear hW5 hb5;go_wp2_with fail;rw [← HW5.out];clear hmm hB c0 c1 c2 n5
   go_loopw [35] (fun iv w2=>∃ k:Nat,k≤PL.length∧iv=.int .i64 k∧(∀ j,j<k→prE L PL j=0)∧Below W.heap.size W w2∧MapAt sK w2 V.heap.size (setL ((PL.take k).map fun x:PC × List Fea=>x.1.s))) (fun iv _=>PL.length-(intOf iv).toNat)
   case atStart=>exact ⟨0,Nat.zero_le _,rfl,fun j h=>absurd h (Nat.not_lt_zero _),HB5.out,HM5.out⟩
   case round =>
    obtain ⟨k,hk,rfl,hall,hB,hM⟩:=hrel;have HAll:=hj_ hall;have HM:=hj_ hM;have hQ2:=hM.lt;clear hall hM;obtain ⟨c0,c1,c2⟩:=HK.out _ hB
    by_cases hlt:k<PL.length
    case pos =>
     have hkm:k<(PL.map Prod.fst).length:=by simpa using hlt
     obtain ⟨b,o,rfl,hbl,hcell⟩:=pc_at HP.out.1 o_
     have hk4:=hcell k hkm;rw [List.getElem_map] at hk4;have kk:=fun (q:Nat)=>hB.cell (p:=⟨b,q,none⟩) hbl
     have hbw:b<wr.heap.size:=Nat.lt_of_lt_of_le hbl hB.size;obtain ⟨H',hH'⟩:=HP.out.2 _ (List.getElem_mem hlt);have hPE:prE L PL k=if profE PL[k].1.s PL[k].1.ft PL[k].1.wa PL[k].2 L≠0 then profE PL[k].1.s PL[k].1.ft PL[k].1.wa PL[k].2 L else if (PL.take k).any (fun x=>decide (x.1.s=PL[k].1.s)) then 7 else 0:=by
      unfold prE;rw [qa1 hlt]
     have hma:∀ s,(PL.take k).any (fun x=>decide (x.1.s=s))=((PL.take k).map (fun x:PC × List Fea=>x.1.s)).any fun y=>decide (y=s):=fun s=>by rw [List.any_map];rfl
     rw [hma] at hPE;have hst:(PL.take (k+1)).map (fun x:PC × List Fea=>x.1.s)=(PL.take k).map (fun x:PC × List Fea=>x.1.s) ++ [PL[k].1.s]:=by rw [List.take_succ_eq_append_getElem hlt,List.map_append];rfl
     have hSome:=hj_ (fun (h:prE L PL k≠0)=>q87 HAll.out h hlt)
     have hZero:=hj_ (fun (h:prE L PL k=0)=>q88 HAll.out h)
     have i0:(0:Int)≤(k:Int):=o_
     have i1:(k:Int)<(PL.length:Int):=o_
     have w0:IntKind.i64.wrap ((k:Int)+1)=(k:Int)+1:=IntWalk.i64_in _ o_
     have HPx:=hj_ (fun w=>HPc.out (PL[k]'hlt) H' w)
     have HH:=hj_ (hH'.below hB);clear hcell hH' hma;generalize PL[k]=x at *;generalize (PL.take k).map (fun x:PC × List Fea=>x.1.s)=M at *
     obtain ⟨⟨xs,xf,xw,xA,xn,xc⟩,xl⟩:=x;obtain ⟨k0,k1,k2,k3⟩:=hk4;have p0:=(kk _).trans k0;have p1:=(kk _).trans k1;have p2:=(kk _).trans k2;have p3:=(kk _).trans k3;clear k0 k1 k2 k3 kk;dsimp only at p0 p1 p2 p3 hPE hst HPx HH;generalize profE xs xf xw xl L=q at *;have HSt:=hj_ hst;obtain ⟨W1,hW1⟩:=ex_ (wr.alloc (.cells #[.string xs,.int .i64 xf,.int .i64 xw,.slice xA xn xc] 87));have hb1:Below wr.heap.size wr W1:=by rw [hW1];exact (br_).alloc lr_ _
     have HX1:=hj_ (show Cells W1 wr.heap.size [.string xs,.int .i64 xf,.int .i64 xw,.slice xA xn xc] by rw [hW1];exact Cells.fresh wr [.string xs,.int .i64 xf,.int .i64 xw,.slice xA xn xc] _)
     have HB1:=hj_ (ht_ hB hb1);have HM1:=hj_ (HM.out.below hb1);have HH1:=hj_ (HH.out.below hb1);have HW1:=hj_ hW1;have n6:w.heap.size<wr.heap.size:=o_
     have n7:¬ w.heap.size=wr.heap.size:=o_
     clear hst hW1 hb1
     by_cases hq:q=0
     case neg =>
      rw [if_pos hq] at hPE;have hU:=HU.out;rw [hSome.out (by rw [hPE];exact hq),hPE,if_pos hq] at hU
      subst hU;have g1:(E == 0)=false:=by simpa using hq
      have g2:(E != 0)=true:=by simpa using hq
      go_wp2_with fail;rw [← HW1.out];refine (HPx.out _ HH1.out (HL.out.below HB1.out)).mono ?_;rintro e wk ⟨rfl,hb⟩;replace hB:=ht_ HB1.out hb;clear hb;go_wp2_with fail;go_ret;exact ⟨rfl,ht_ HB0.out hB⟩
     case pos =>
      subst hq;rw [if_neg (fun h=>h rfl)] at hPE
      cases hin:M.any (fun y=>decide (y=xs)) with
      | true =>
       have hU:=HU.out;rw [if_pos hin] at hPE;rw [hSome.out (by rw [hPE];decide),hPE,if_pos d_] at hU
       subst hU;go_wp2_with fail;rw [← HW1.out];refine (HPx.out _ HH1.out (HL.out.below HB1.out)).mono ?_;rintro e wk ⟨rfl,hb⟩;have HM3:=hj_ (HM1.out.below hb);have hX3:=HX1.out.below hb HX1.out.1;have d0:=hX3.at_ (j:=0) rfl
       replace hB:=ht_ HB1.out hb;clear hb hX3;obtain ⟨c0,c1,c2⟩:=HK.out _ hB;go_wp2_with (at_lookup;refine q002 _ rfl _ _ _ _ rfl _ _ underlying166 sK (KeyTy.str underlying9) V.heap.size (setL M) xs rfl rfl HM3.out (.bool false) s_ ?_;rw [qd7,hin])
       go_ret;exact ⟨rfl,ht_ HB0.out hB⟩
      | false =>
       rw [if_neg (by rw [hin];exact Bool.false_ne_true)] at hPE
       have HNx:=hj_ (hZero.out hPE);have HNn:=hj_ (show lookL (setL M) xs=none by rw [qd3,hin];rfl)
       clear hPE;go_wp2_with fail;rw [← HW1.out];refine (HPx.out _ HH1.out (HL.out.below HB1.out)).mono ?_;rintro e wk ⟨rfl,hb⟩;have HM3:=hj_ (HM1.out.below hb);have hX3:=HX1.out.below hb HX1.out.1;have d0:=hX3.at_ (j:=0) rfl
       replace hB:=ht_ HB1.out hb;clear hb hX3;obtain ⟨c0,c1,c2⟩:=HK.out _ hB;go_wp2_with (first | (at_lookup;refine q002 _ rfl _ _ _ _ rfl _ _ underlying166 sK (KeyTy.str underlying9) V.heap.size (setL M) xs rfl rfl HM3.out (.bool false) s_ ?_;rw [qd7,hin]) | (at_mapUpdate;refine q004 _ rfl _ _ _ _ rfl _ _ underlying166 sK (KeyTy.str underlying9) V.heap.size (setL M) xs (.bool true) rfl rfl rfl HM3.out HNn.out ?_;intro w5 hm5 hg5;have HM6:=hj_ hm5;have HB6:=hj_ (hB.grown hg5 hB.size (fun q e=>by cases e;exact HQs.out));clear hm5 hg5))
       go_roundw
       case rel=>exact ⟨k+1,hlt,by go_num,HNx.out,HB6.out,by rw [HSt.out,← qpf];exact HM6.out⟩
       case measure=>simp [intOf];omega
    case neg =>
     obtain rfl:k=PL.length:=o_
     have hU:=HU.out;rw [q86 HAll.out,if_neg (fun h=>h rfl)] at hU
     subst hU;go_wp2_with fail;refine uq_ (HPa.out _ (HX.out.below hB) (HP.out.below hB).1) hB fun wk hB=>?_;go_wp2_with fail;go_ret;exact ⟨rfl,ht_ HB0.out hB⟩
theorem q3p (A:Option Addr) (c:Nat) (x y:Int) (w:World) (hl:Is w A 2 [x,y]) :
  Calls prog 261 #[.slice A 2 c] w fun e w'=>e=.returned (.int .i64 (if x≠0 then x else y))∧Below w.heap.size w w'∧w.drawn≤w'.drawn:=by
 obtain ⟨b,o,rfl,hbl,h0⟩:=hl.at1 (k:=0) s_
 obtain ⟨b',o',e,-,h1⟩:=hl.at1 (k:=1) s_
 cases e
 have HL:=hj_ hl;obtain ⟨E,hE⟩:=xe_ (if x≠0 then x else y)
 rw [hE];have p0:w.cell? ⟨b,o,none⟩=some (.int .i64 x):=by simpa using h0
 have p1:w.cell? ⟨b,o+1,none⟩=some (.int .i64 y):=by simpa using h1
 have HP:=hj_ (And.intro p0 p1);clear h0 h1 hl
 go_enter func261,ntmps261
 go_wp2_with fail
 go_loopw [8] (fun iv wr=>∃ k:Nat,k≤2∧iv=.int .i64 k∧(0<k→x=0)∧(1<k→y=0)∧Below w.heap.size w wr∧w.drawn≤wr.drawn) (fun iv _=>2-(intOf iv).toNat)
 case atStart=>exact ⟨0,o_,rfl,o_,o_,br_,Nat.le_refl _⟩
 case round =>
  obtain ⟨k,hk,rfl,hx,hy,hB,hD⟩:=hrel;have HX:=hj_ (And.intro hx hy);clear hx hy;have q0:=(hB.cell (p:=⟨b,o,none⟩) hbl).trans p0;have q1:=(hB.cell (p:=⟨b,o+1,none⟩) hbl).trans p1;have hbw:=Nat.lt_of_lt_of_le hbl hB.size;obtain rfl | rfl | rfl:k=0∨k=1∨k=2:=o_
  ·by_cases h:x=0
   ·subst h
    go_wp2_with fail
    go_roundw
    case rel=>exact ⟨1,o_,by go_num,fun _=>trivial,fun h=>absurd h o_,hB,hD⟩
    case measure=>simp [intOf]
   ·have g1:(x != 0)=true:=by simpa using h
    rw [if_pos h] at hE;subst hE;go_wp2_with fail;go_ret;exact ⟨rfl,hB,hD⟩
  ·obtain rfl:x=0:=HX.out.1 o_
   by_cases h:y=0
   ·subst h
    go_wp2_with fail
    go_roundw
    case rel=>exact ⟨2,o_,by go_num,fun _=>trivial,fun _=>trivial,hB,hD⟩
    case measure=>simp [intOf]
   ·have g1:(y != 0)=true:=by simpa using h
    rw [if_neg (fun h=>h rfl)] at hE
    subst hE;go_wp2_with fail;go_ret;exact ⟨rfl,hB,hD⟩
  ·obtain rfl:x=0:=HX.out.1 o_
   obtain rfl:y=0:=HX.out.2 o_
   rw [if_neg (fun h=>h rfl)] at hE
   subst hE;go_wp2_with fail;go_ret;exact ⟨rfl,hB,hD⟩
def cmpV (a b c d:Int):Int:=if Lib.compareInt a c≠0 then Lib.compareInt a c else Lib.compareInt b d
theorem qtw (a b c d:Int) (w:World) :
  Calls prog 204 #[.agg #[.int .i64 a,.int .i64 b],.agg #[.int .i64 c,.int .i64 d]] w fun e w'=>e=.returned (.int .i64 (cmpV a b c d))∧Below w.heap.size w w'∧w.drawn≤w'.drawn:=by
 have HC:=hj_ (fun x y w=>cmp_Compare_int x y w)
 unfold cmpV;have HO:=hj_ (fun w'=>q3p (some ⟨w'.heap.size,0,none⟩) 2 (Lib.compareInt a c) (Lib.compareInt b d) (w'.alloc (.cells #[.int .i64 (Lib.compareInt a c),.int .i64 (Lib.compareInt b d)] 3)) (Is.lit w' [Lib.compareInt a c,Lib.compareInt b d] 3 _ rfl))
 replace HC:=hj_ (And.intro (fun w=>HC.out a c w) (fun w=>HC.out b d w))
 obtain ⟨E,hE⟩:=xe_ (if Lib.compareInt a c≠0 then Lib.compareInt a c else Lib.compareInt b d)
 rw [hE] at HO ⊢;clear hE;generalize Lib.compareInt a c=x at *;generalize Lib.compareInt b d=y at *;obtain ⟨W,HW,HB0,HK⟩:=bx2_2 w (.int .i64 a) (.int .i64 b) 64 (.int .i64 c) (.int .i64 d) 64;have hB:=Below.refl W.heap.size W;obtain ⟨c0,c1,c2,c3⟩:=HK.out W hB
 go_enter func204,ntmps204
 go_wp2_with fail;rw [← HW.out]
 go_still_tail 10,k_
 still_call (HC.out.1 _)
 repeat still_step
 still_call (HC.out.2 _)
 refine wpStill_nil ?_;change wpList _ _ _ _ _ W.drew;have hb5:Below W.heap.size W W.drew:=(br_).drew;have hd5:w.drawn≤W.drew.drawn:=by rw [HW.out];exact Nat.le_succ _
 have HD5:=hj_ hd5;clear hd5;generalize W.drew=w5 at *;have ha:Below w5.heap.size w5 (w5.alloc (.cells #[.int .i64 x,.int .i64 y] 3)):=(br_).alloc lr_ _;go_wp2_with fail;refine (HO.out _).mono ?_;rintro e w6 ⟨rfl,hb,hd⟩;have HD6:=hj_ (Nat.le_trans HD5.out hd);have HB6:=hj_ (hb5.trans ((ht_ ha hb).mono hb5.size));clear hb ha hb5 hd;go_wp2_with fail;go_ret;exact ⟨rfl,ht_ HB0.out HB6.out,HD6.out⟩
theorem q3n (x y:Am):decide (0≤cmpV x.ch x.at_ y.ch y.at_) = !q15 x y:=by
 unfold cmpV q15 Lib.compareInt
 by_cases h1:x.ch<y.ch
 ·simp [h1]
 ·by_cases h2:y.ch<x.ch
  ·have h3:¬ x.ch=y.ch:=by omega
   simp [h1,h2,h3]
  ·have h3:x.ch=y.ch:=by omega
   rw [h3]
   by_cases h4:x.at_<y.at_
   ·simp [h4]
   ·by_cases h5:y.at_<x.at_ <;> simp [h4,h5]
theorem qyh (a b:Int) (w:World) :
  Rt 202 #[.agg #[.int .i64 a,.int .i64 b]] w (.int .i64 (paramE a b)):=by
 obtain ⟨E,hE⟩:=xe_ (paramE a b);rw [hE];unfold paramE at hE;obtain ⟨W,HW,HB0,HK⟩:=bx2 w (.int .i64 a) (.int .i64 b) 64;have hB:=Below.refl W.heap.size W;obtain ⟨c0,c1⟩:=HK.out W hB
 by_cases h_0:a<1
 ·rw [if_pos o_] at hE
  subst hE
  go_enter func202,ntmps202
  go_wp2_with fail;rw [← HW.out];go_wp2_with fail;go_ret;exact ⟨rfl,HB0.out⟩
 by_cases h_1:999<a
 ·rw [if_pos o_] at hE
  subst hE
  go_enter func202,ntmps202
  go_wp2_with fail;rw [← HW.out];go_wp2_with fail;go_ret;exact ⟨rfl,HB0.out⟩
 by_cases h_2:b<0
 ·rw [if_pos o_] at hE
  subst hE
  go_enter func202,ntmps202
  go_wp2_with fail;rw [← HW.out];go_wp2_with fail;go_ret;exact ⟨rfl,HB0.out⟩
 by_cases h_3:15≤b
 ·rw [if_pos o_] at hE
  subst hE
  go_enter func202,ntmps202
  go_wp2_with fail;rw [← HW.out];go_wp2_with fail;go_ret;exact ⟨rfl,HB0.out⟩
 rw [if_neg o_] at hE
 subst hE
 go_enter func202,ntmps202
 go_wp2_with fail;rw [← HW.out];go_wp2_with fail;go_ret;exact ⟨rfl,HB0.out⟩
theorem q71 (s:BT):errG s 0 0 0=errLv s:=by
 unfold errG
 by_cases h:errLv s=0
 ·rw [if_neg (fun h2=>h2 h),h];decide
 ·rw [if_pos h]
theorem qu1 (A:Option Addr) (n c:Nat) (l:List Am) (w:World) (hl:shAm.In w A n l) (hn:n≤9223372036854775806) (hs:∀ x ∈ l,x.lev.size≤1000) (ht:Tab w) :
  Rt 140 #[.slice A n c] w (.int .i64 (givE l)):=by
 obtain ⟨rfl,_⟩:=id hl;have hB:=Below.refl w.heap.size w;have hU:givE l=if 4096<l.length then 5 else firstE (amE l) l.length:=rfl
 obtain ⟨E,hE⟩:=xe_ (givE l);rw [hE] at hU ⊢;have HL:=hj_ hl;have HT:=hj_ ht;have HG:=hj_ (fun (x:Am) (hx:x ∈ l) w ht=>q9x x.lev 0 0 0 w (hs x hx) ht)
 have HPa:=hj_ (fun a b w=>qyh a b w)
 have HCm:=hj_ (fun a b c d w=>(qtw a b c d w).mono fun _ _ h=>(⟨h.1,h.2.1⟩:_∧_))
 clear hl hs ht hE
 by_cases h1:4096<l.length
 ·rw [if_pos h1] at hU
  subst hU;have g1:(4096:Int)<(l.length:Int):=o_
  go_enter func140,ntmps140
  go_wp2_with fail;go_ret;exact ⟨rfl,hB⟩
 have g1:¬ (4096:Int)<(l.length:Int):=o_
 rw [if_neg h1] at hU;have HU:=hj_ hU;clear hU
 go_enter func140,ntmps140
 go_wp2_with fail
 go_loopw [12] (fun iv wr=>∃ k:Nat,k≤l.length∧iv=.int .i64 k∧(∀ j,j<k→amE l j=0)∧Below w.heap.size w wr) (fun iv _=>l.length-(intOf iv).toNat)
 case atStart=>exact ⟨0,Nat.zero_le _,rfl,fun j h=>absurd h (Nat.not_lt_zero _),hB⟩
 case round =>
  clear hB;obtain ⟨k,hk,rfl,hall,hB⟩:=hrel;have HAll:=hj_ hall;clear hall
  by_cases hlt:k<l.length
  case neg =>
   obtain rfl:k=l.length:=o_
   have hU:=HU.out;rw [q86 HAll.out] at hU;subst hU;go_wp2_with fail;go_ret;exact ⟨rfl,hB⟩
  case pos =>
   obtain ⟨b,o,rfl,hbl,hcell⟩:=am_at HL.out o_
   obtain ⟨k0,k1,k2⟩:=hcell k hlt;have p0:=(hB.cell (p:=⟨b,o+k*3,none⟩) hbl).trans k0;have p1:=(hB.cell (p:=⟨b,o+k*3+1,none⟩) hbl).trans k1;have p2:=(hB.cell (p:=⟨b,o+k*3+2,none⟩) hbl).trans k2;have hbw:b<wr.heap.size:=Nat.lt_of_lt_of_le hbl hB.size;clear k0 k1 k2;have i0:(0:Int)≤(k:Int):=o_
   have i1:(k:Int)<(l.length:Int):=o_
   have w0:IntKind.i64.wrap ((k:Int)+1)=(k:Int)+1:=IntWalk.i64_in _ o_
   have hSome:=hj_ (fun (h:amE l k≠0)=>HU.out.trans (q87 HAll.out h hlt))
   have hZero:=hj_ (fun (h:amE l k=0)=>q88 HAll.out h)
   have HGk:=hj_ (HG.out l[k] (List.getElem_mem hlt));have hAE:amE l k=if paramE l[k].ch l[k].at_≠0 then paramE l[k].ch l[k].at_ else if errLv l[k].lev.data.toList≠0 then errLv l[k].lev.data.toList else if 0<k∧q15 (l.getD (k-1) am0) l[k]=false then 9 else 0:=by
    unfold amE;rw [qa1 hlt]
   have hprev:0<k→∃ y:Am,l.getD (k-1) am0=y∧w.cell? ⟨b,o+(k-1)*3,none⟩=some (.int .i64 y.ch)∧w.cell? ⟨b,o+(k-1)*3+1,none⟩=some (.int .i64 y.at_):=fun h=>⟨l[k-1],by rw [qa1 o_],(hcell (k-1) o_).1,(hcell (k-1) o_).2.1⟩
   have HPrev:=hj_ hprev;clear hcell hprev;generalize l[k]=x at *;rw [q71] at HGk;have HCb:=hj_ (fun y:Am=>q3n y x)
   obtain ⟨ch,at_,lev⟩:=x
   dsimp only at p0 p1 p2 hAE HGk;generalize errLv lev.data.toList=q2 at *;generalize hq1:paramE ch at_=q1 at *
   obtain ⟨W1,hW1⟩:=ex_ (wr.alloc (.cells #[.int .i64 ch,.int .i64 at_,.string lev] 66))
   have hb1:Below wr.heap.size wr W1:=by rw [hW1];exact (br_).alloc lr_ _
   have HX1:=hj_ (show Cells W1 wr.heap.size [.int .i64 ch,.int .i64 at_,.string lev] by rw [hW1];exact Cells.fresh wr [.int .i64 ch,.int .i64 at_,.string lev] _)
   have HB1:=hj_ (ht_ hB hb1);have HW1:=hj_ hW1;have HPk:=hj_ (fun w=>HPa.out ch at_ w)
   rw [hq1] at HPk;clear hW1 hb1 hq1
   by_cases hq:q1=0
   case neg =>
    rw [if_pos hq] at hAE;have hU:=hSome.out (by rw [hAE];exact hq)
    rw [hAE] at hU;subst hU;have g3:(E == 0)=false:=by simpa using hq
    have g4:(E != 0)=true:=by simpa using hq
    go_wp2_with fail;rw [← HW1.out];refine (HPk.out _).mono ?_;rintro e wk ⟨rfl,hb⟩;replace hB:=ht_ HB1.out hb;clear hb;go_wp2_with fail;go_ret;exact ⟨rfl,hB⟩
   case pos =>
    subst hq;rw [if_neg (fun h=>h rfl)] at hAE
    go_wp2_with fail;rw [← HW1.out];refine (HPk.out _).mono ?_;rintro e wk ⟨rfl,hb⟩;have HX2:=hj_ (HX1.out.below hb HX1.out.1);replace hB:=ht_ HB1.out hb;have hz2:=HX2.out.at_ (j:=2) rfl
    clear hb;go_wp2_with fail;refine (HGk.out _ (HT.out.below hB)).mono ?_;rintro e wm ⟨rfl,hb⟩;have HX3:=hj_ (HX2.out.below hb HX2.out.1);replace hB:=ht_ hB hb;clear hb
    by_cases hq2:q2=0
    case neg =>
     rw [if_pos hq2] at hAE;have hU:=hSome.out (by rw [hAE];exact hq2)
     rw [hAE] at hU;subst hU;have g3:(E == 0)=false:=by simpa using hq2
     have g4:(E != 0)=true:=by simpa using hq2
     go_wp2_with fail;go_ret;exact ⟨rfl,hB⟩
    case pos =>
     subst hq2;rw [if_neg (fun h=>h rfl)] at hAE
     have d0:=HX3.out.at_ (j:=0) rfl
     have d1:=HX3.out.at_ (j:=1) rfl
     by_cases hk0:k=0
     ·subst hk0
      have HN:=hj_ (hZero.out (by rw [hAE,if_neg (fun h=>absurd h.1 o_)]))
      clear p0 p1 p2;go_wp2_with fail;go_quiet (fail);replace hB:=q18 hB nq;go_wp2_with fail
      go_roundw
      case rel=>exact ⟨1,o_,by go_num,HN.out,hB⟩
      case measure=>simp [intOf];omega
     ·obtain ⟨j,rfl⟩:∃ j,k=j+1:=⟨k-1,o_⟩
      obtain ⟨y,hy,e0,e1⟩:=HPrev.out o_
      rw [hy] at hAE;have HCy:=HCb.out y;have HCx:=hj_ (HCm.out y.ch y.at_ ch at_)
      generalize cmpV y.ch y.at_ ch at_=cv at *
      obtain ⟨yc,ya,yl⟩:=y;dsimp only at e0 e1 HCx hAE HCy;generalize q15 ⟨yc,ya,yl⟩ ⟨ch,at_,lev⟩=bf at *
      rw [Nat.add_sub_cancel] at e0 e1;have f0:=(hB.cell (p:=⟨b,o+j*3,none⟩) hbl).trans e0;have f1:=(hB.cell (p:=⟨b,o+j*3+1,none⟩) hbl).trans e1;have j0:(0:Int)≤(j:Int):=o_
      have j1:(j:Int)<(l.length:Int):=o_
      have j2:(0:Int)<(j:Int)+1:=o_
      have w1:IntKind.i64.wrap ((j:Int)+1-1)=(j:Int):=by rw [Int.add_sub_cancel];exact IntWalk.i64_in _ o_
      have w2:IntKind.i64.wrap (j:Int)=(j:Int):=IntWalk.i64_in _ o_
      have w3:IntKind.i64.wrap ((j:Int)+1+1)=(j:Int)+1+1:=IntWalk.i64_in _ o_
      have w4:IntKind.i64.wrap ((j:Int)+1)=(j:Int)+1:=IntWalk.i64_in _ o_
      clear p0 p1 p2 e0 e1 HPrev hy;go_wp2_with fail
      go_still_tail 11,k_
      change wpList _ _ _ _ _ wm.drew;replace hB:=hB.drew;have HX4:=hj_ (HX3.out.below (Below.refl wm.heap.size wm).drew HX3.out.1);generalize wm.drew=w5 at *;go_wp2_with fail;refine uq_ (HCx.out _) hB fun w6 hB=>?_
      cases bf with
      | true =>
       have HN:=hj_ (hZero.out (by rw [hAE,if_neg (fun h=>absurd h.2 d_)]))
       have g5:¬ (0:Int)≤cv:=by
        intro h;rw [decide_eq_true h] at HCy
        cases HCy
       go_wp2_with fail
       go_roundw
       case rel=>exact ⟨j+1+1,o_,by go_num,HN.out,hB⟩
       case measure=>simp [intOf];omega
      | false =>
       have hU:=hSome.out (by rw [hAE,if_pos ⟨o_,rfl⟩];decide)
       rw [hAE,if_pos ⟨o_,rfl⟩] at hU
       subst hU;have g5:(0:Int)≤cv:=by
        by_cases h:0≤cv
        ·exact h
        ·rw [decide_eq_false h] at HCy
         cases HCy
       go_wp2_with fail;go_ret;exact ⟨rfl,hB⟩
theorem qb1 (h:isLev v):atT ⟨#[48]⟩ v 0 0 0=sR (v:Rat)∧errG (⟨#[48]⟩:ByteArray).data.toList v 0 0=0:=by
 have hl:errLv (⟨#[48]⟩:ByteArray).data.toList=0:=by decide +kernel
 have he:errG (⟨#[48]⟩:ByteArray).data.toList v 0 0=0:=by
  unfold errG;rw [if_neg (fun h2=>h2 hl)]
  unfold isLev at h;rw [if_pos (by unfold inT;simp;omega)]
 refine ⟨?_,he⟩;unfold atT;rw [if_neg (fun h2=>h2 he)]
 unfold ofT;rw [if_pos d_]
theorem qu2 (f:FC) (w:World) (hlev:isLev f.ho) (ht:Tab w) :
  Rt 144 #[f.val] w (.string (sR (f.ho:Rat))):=by
 obtain ⟨e1,e2⟩:=qb1 hlev;have HA0:=hj_ (fun w ht=>q9s ⟨#[48]⟩ f.ho 0 0 0 w d_ d_ d_ ht)
 rw [e1,e2] at HA0;clear e1 e2;obtain ⟨at_,bits,co,fi,cu,ho,lo,hi,sn,A,n,c⟩:=f
 dsimp only at HA0;show Rt 144 #[.agg #[.int .i64 at_,.int .i64 bits,.int .i64 co,.int .i64 fi,.int .i64 cu,.int .i64 ho,.int .i64 lo,.int .i64 hi,.bool sn,.slice A n c]] w (.string (sR (ho:Rat)))
 generalize sR (ho:Rat)=S at *;obtain ⟨W,hW⟩:=ex_ (w.alloc (.cells #[.int .i64 at_,.int .i64 bits,.int .i64 co,.int .i64 fi,.int .i64 cu,.int .i64 ho,.int .i64 lo,.int .i64 hi,.bool sn,.slice A n c] 114))
 obtain ⟨hB0,hK⟩:=fbox at_ bits co fi cu ho lo hi sn A n c w W hW
 have HK:=hj_ hK;have HW:=hj_ hW;have HB0:=hj_ hB0;have hB:=Below.refl W.heap.size W;obtain ⟨c0,c1,c2,c3,c4,c5,c6,c7,c8,c9⟩:=hK W hB;clear hW hB0 hK;have HT:=hj_ (ht.below HB0.out);clear ht hlev
 go_enter func144,ntmps144
 go_wp2_with fail;rw [← HW.out];refine uq_ (HA0.out _ (HT.out.below hB)) hB fun wk hB=>?_;obtain ⟨c0,c1,c2,c3,c4,c5,c6,c7,c8,c9⟩:=HK.out _ hB;go_wp2_with fail;go_ret;exact ⟨rfl,ht_ HB0.out hB⟩
def pgRow (s:List UInt8):Array Value:=(s.map fun b=>Value.int .u8 (b.toNat:Int)).toArray
def u8v (v:Int):UInt8:=UInt8.ofNat v.toNat
theorem qtj (h0:0≤v) (h1:v≤255):((u8v v).toNat:Int)=v:=by
 unfold u8v;rw [UInt8.toNat_ofNat'];omega
theorem qhk {s:List UInt8} {a:Nat} (h:a<s.length):(pgRow s)[a]? = some (.int .u8 (s[a].toNat:Int)):=by
 unfold pgRow;simp [h]
theorem qhm (s:List UInt8) (a:Nat) (h0:0≤v) (h1:v≤255):(pgRow s).setIfInBounds a (.int .u8 v)=pgRow (s.set a (u8v v)):=by
 unfold pgRow;rw [List.map_set,qtj h0 h1];simp
theorem qyp (off v ad:Int) (Q X B:Nat) (pg:List UInt8) (w:World) (hQ:w.cell? ⟨Q,0,none⟩=some (.slice (some ⟨B,0,none⟩) 512 512)) (hX:w.cell? ⟨X,4,none⟩=some (.int .i64 ad)) (hR:RowAt w B (pgRow pg) 5) (hl:pg.length=512)
  (ha0:0≤ad-1+off) (ha1:ad-1+off<512) (had:1≤ad∧ad≤512) (v0:0≤v) (v1:v≤255) :
  Calls prog 142 #[.int .i64 off,.int .i64 v,.pointer (some ⟨Q,0,none⟩),.pointer (some ⟨X,0,none⟩)] w fun e w'=>e=.returned (.tuple #[])∧RowAt w' B (pgRow (pg.set (ad-1+off).toNat (u8v v))) 5∧w.grownBy w' (some B):=by
 obtain ⟨a,ha⟩:∃ a:Nat,(a:Int)=ad-1+off:=⟨(ad-1+off).toNat,o_⟩
 have hal:a<pg.length:=o_
 have z0:=hR.cell (qhk hal);have z1:=hR.fr a;have HPost:=hj_ (show RowAt (w.setCell ⟨B,a,none⟩ (.int .u8 v)) B (pgRow (pg.set a (u8v v))) 5∧w.grownBy (w.setCell ⟨B,a,none⟩ (.int .u8 v)) (some B) from ⟨by rw [← qhm pg a v0 v1];exact hR.set a _,qag _ _ _ _⟩)
 rw [← ha,show ((a:Int)).toNat=a by omega]
 have w1:IntKind.i64.wrap (ad-1)=ad-1:=IntWalk.i64_in _ o_
 have w2:IntKind.i64.wrap (ad-1+off)=(a:Int):=by rw [← ha];exact IntWalk.i64_in _ o_
 have w3:IntKind.u8.wrap v=v:=IntWalk.u8_in _ o_
 have j0:(0:Int)≤(a:Int):=o_
 have j1:(a:Int)<512:=o_
 generalize (pg[a].toNat:Int)=old at z0;clear hR hl ha0 ha1 had ha hal
 go_enter func142,ntmps142
 go_wp2_with fail
 go_end0
 exact ⟨rfl,HPost.out⟩
theorem row_ne {B b o:Nat} {pg:List UInt8} {t:TypeId} (h:RowAt w B (pgRow pg) t) (hc:w.cell? ⟨b,o,none⟩=some (.int .i64 v)):b≠B:=by
 rintro rfl;rw [cell_of_row _ _ o _ t (0,0) h] at hc;unfold pgRow at hc;simp at hc
theorem ql3 {f:Fea} {L:List (List PT)} {s:ByteArray} (h:rawE f L s=0):(f.bits=8∨f.bits=16)∧f.lo≤rawV f L s∧rawV f L s≤f.hi∧0≤rawV f L s∧rawV f L s≤topV f.bits∧bytesE f (rawV f L s)=0:=by
 have ha:aloneE f L=0:=Classical.byContradiction fun hn=>by unfold rawE at h;rw [if_pos hn] at h;exact hn h
 obtain ⟨hA,hb,h0,h1,hho,hlo,hlh,hht,hw⟩:=q0g ha;have hr:rawV f L s=madeR f.lo f.hi (qi6 f.cu L) (valR s.data.toList):=by unfold rawV;rw [if_neg (fun hn=>hn h)]
 obtain ⟨m0,m1⟩:=qdm (qi7 hA h0 h1) hlh (valR s.data.toList);rw [← hr] at m0 m1;refine ⟨hb,m0,m1,o_,o_,?_⟩
 have hbe:bitsE f=0:=by
  unfold bitsE bitsV;rw [if_neg o_]
 have hpe:partsE f=0:=by
  unfold partsE;rw [if_neg (by rintro (h | h | h | h);exact h hho;omega;omega;omega)]
  exact hw
 have hbare:bareE f=0:=by
  unfold bareE;rw [hbe,if_neg (fun h=>h rfl)]
  exact hpe
 unfold bytesE;rw [hbare,if_neg (fun h=>h rfl),if_neg o_]
def setF (pg:List UInt8) (ad:Int) (f:Fea) (raw:Int):List UInt8 :=
 if f.bits=8 then pg.set (ad-1+f.co).toNat (u8v raw) else (pg.set (ad-1+f.co).toNat (u8v (raw / 256))).set (ad-1+f.fi).toNat (u8v (raw % 256))
theorem qpd (pg:List UInt8) (ad:Int) (f:Fea) (raw:Int):(setF pg ad f raw).length=pg.length:=by
 unfold setF
 by_cases h:f.bits=8
 ·rw [if_pos h,List.length_set]
 ·rw [if_neg h,List.length_set,List.length_set]
theorem qyv (f:FC) (wl:List Slt) (A':Option Addr) (n' c':Nat) (H:List Hd) (L:List (List PT)) (s:ByteArray) (ad:Int) (Q X B:Nat) (pg:List UInt8) (w:World)
  (hw:FW w f wl) (hl:InN w A' n' H L) (hm:∀ h ∈ H,h.n≤9223372036854775807) (hn:n'≤9223372036854775807) (hs:s.size≤120) (ht:Tab w) (hr:Rng w)
  (hE:rawE (f.fea wl) L s=0) (hco:0≤ad-1+f.co∧ad-1+f.co<512) (hfi:f.bits=16→0≤ad-1+f.fi∧ad-1+f.fi<512) (had:1≤ad∧ad≤512)
  (hQ:w.cell? ⟨Q,0,none⟩=some (.slice (some ⟨B,0,none⟩) 512 512)) (hX:w.cell? ⟨X,4,none⟩=some (.int .i64 ad)) (hR:RowAt w B (pgRow pg) 5) (hlen:pg.length=512) (hQl:Q<w.heap.size) (hXl:X<w.heap.size) (hQB:Q≠B) (hXB:X≠B) :
  Calls prog 145 #[f.val,.slice A' n' c',.string s,.func (.func 142) #[] #[.pointer (some ⟨Q,0,none⟩),.pointer (some ⟨X,0,none⟩)]] w fun e w'=>e=.returned (.int .i64 0)∧RowAt w' B (pgRow (setF pg ad (f.fea wl) (rawV (f.fea wl) L s))) 5∧w.grownBy w' (some B):=by
 have HRw0:=hj_ (fun w hw hl ht hr=>qig f wl A' n' c' H L s w hw hl hm hn hs ht hr)
 obtain ⟨hb816,hr0,hr1,hr2,hr3,hbE⟩:=ql3 hE;rw [hE] at HRw0;have hbV:bytesV (f.fea wl) (rawV (f.fea wl) L s)=if f.bits=8 then [rawV (f.fea wl) L s] else [rawV (f.fea wl) L s / 256,rawV (f.fea wl) L s % 256]:=by
  unfold bytesV;rw [if_neg (fun h=>h hbE)]
  rfl
 have HBy0:=hj_ (fun w hw=>qgt f wl (rawV (f.fea wl) L s) w hw)
 rw [hbE,hbV] at HBy0;have hSF:setF pg ad (f.fea wl) (rawV (f.fea wl) L s)=if f.bits=8 then pg.set (ad-1+f.co).toNat (u8v (rawV (f.fea wl) L s)) else (pg.set (ad-1+f.co).toNat (u8v (rawV (f.fea wl) L s / 256))).set (ad-1+f.fi).toNat (u8v (rawV (f.fea wl) L s % 256)):=rfl
 rw [hSF];clear hSF hbV hbE hr0 hr1 hE;have htop:topV (f.fea wl).bits=if f.bits=8 then 255 else 65535:=rfl
 rw [htop] at hr3;have hb2:f.bits=8∨f.bits=16:=hb816;clear htop hb816;generalize rawV (f.fea wl) L s=raw at *;have HS1:=hj_ (fun v w h1 h2 h3 v0 v1=>qyp f.co v ad Q X B pg w h1 h2 h3 hlen hco.1 hco.2 had v0 v1)
 have HS2:=hj_ (fun (h16:f.bits=16) pg v w h1 h2 h3 hlen v0 v1=>qyp f.fi v ad Q X B pg w h1 h2 h3 hlen (hfi h16).1 (hfi h16).2 had v0 v1)
 obtain ⟨at_,bits,co,fi,cu,ho,lo,hi,sn,A,n,c⟩:=f
 dsimp only at HS1 HS2 hb2 hr3 HBy0;have HRw:=hj_ (show ∀ w',FW w' ⟨at_,bits,co,fi,cu,ho,lo,hi,sn,A,n,c⟩ wl→InN w' A' n' H L→Tab w'→Rng w'→Calls prog 207 #[.agg #[.int .i64 at_,.int .i64 bits,.int .i64 co,.int .i64 fi,.int .i64 cu,.int .i64 ho,.int .i64 lo,.int .i64 hi,.bool sn,.slice A n c],.slice A' n' c',.string s] w' fun e w''=>e=.returned (.tuple #[.int .i64 raw,.int .i64 0])∧Below w'.heap.size w' w'' from HRw0.out)
 have HBy:=hj_ (show ∀ w',FW w' ⟨at_,bits,co,fi,cu,ho,lo,hi,sn,A,n,c⟩ wl→Calls prog 208 #[.agg #[.int .i64 at_,.int .i64 bits,.int .i64 co,.int .i64 fi,.int .i64 cu,.int .i64 ho,.int .i64 lo,.int .i64 hi,.bool sn,.slice A n c],.int .i64 raw] w' fun e w''=>∃ A2 n2 c2,e=.returned (.tuple #[.slice A2 n2 c2,.int .i64 0])∧Is w'' A2 n2 (if bits=8 then [raw] else [raw / 256,raw % 256])∧Below w'.heap.size w' w'' from HBy0.out)
 show Calls prog 145 #[.agg #[.int .i64 at_,.int .i64 bits,.int .i64 co,.int .i64 fi,.int .i64 cu,.int .i64 ho,.int .i64 lo,.int .i64 hi,.bool sn,.slice A n c],.slice A' n' c',.string s,.func (.func 142) #[] #[.pointer (some ⟨Q,0,none⟩),.pointer (some ⟨X,0,none⟩)]] w fun e w'=>e=.returned (.int .i64 0)∧RowAt w' B (pgRow (if bits=8 then pg.set (ad-1+co).toNat (u8v raw) else (pg.set (ad-1+co).toNat (u8v (raw / 256))).set (ad-1+fi).toNat (u8v (raw % 256)))) 5∧w.grownBy w' (some B)
 have eg:=enters_of func142 k_ rfl
 have hBl:=hR.lt;obtain ⟨W,hW⟩:=ex_ (w.alloc (.cells #[.int .i64 at_,.int .i64 bits,.int .i64 co,.int .i64 fi,.int .i64 cu,.int .i64 ho,.int .i64 lo,.int .i64 hi,.bool sn,.slice A n c] 114))
 obtain ⟨hB0,hK⟩:=fbox at_ bits co fi cu ho lo hi sn A n c w W hW
 have HK:=hj_ hK;have HW:=hj_ hW;have HB0:=hj_ hB0;have hB:=Below.refl W.heap.size W;obtain ⟨c0,c1,c2,c3,c4,c5,c6,c7,c8,c9⟩:=hK W hB;clear hW hB0 hK;have HFW:=hj_ (hw.below HB0.out);have HIn:=hj_ (hl.below HB0.out);have HT:=hj_ (ht.below HB0.out);have HRg:=hj_ (hr.below HB0.out);have HKp:=hj_ (fun (w':World) (h:Below W.heap.size W w')=>And.intro ((h.cell (p:=⟨Q,0,none⟩) (Nat.lt_of_lt_of_le hQl HB0.out.size)).trans ((HB0.out.cell (p:=⟨Q,0,none⟩) hQl).trans hQ)) (And.intro ((h.cell (p:=⟨X,4,none⟩) (Nat.lt_of_lt_of_le hXl HB0.out.size)).trans ((HB0.out.cell (p:=⟨X,4,none⟩) hXl).trans hX)) ((hR.below HB0.out hBl).below h (Nat.lt_of_lt_of_le hBl HB0.out.size))))
 clear HRw0 HBy0 hw hl ht hr hm hn hs hQ hX hR
 rcases hb2 with rfl | rfl
 ·rw [if_pos rfl] at hr3 ⊢
  simp only [if_true] at HBy
  go_enter func145,ntmps145
  go_wp2_with fail;rw [← HW.out];refine uq_ (HRw.out _ (HFW.out.below hB) (HIn.out.below hB) (HT.out.below hB) (HRg.out.below hB)) hB fun wk hB=>?_;obtain ⟨c0,c1,c2,c3,c4,c5,c6,c7,c8,c9⟩:=HK.out _ hB;go_wp2_with fail;refine (HBy.out _ (HFW.out.below hB)).mono ?_;rintro e wk ⟨A2,n2,c2,rfl,hIs,hb⟩;replace hB:=ht_ hB hb;clear hb;obtain ⟨b2,o2,rfl,hbl,h0⟩:=hIs.at1 (k:=0) s_
  have hn2:=hIs.1;obtain rfl:n2=1:=by simpa using hn2
  have q0:wk.cell? ⟨b2,o2,none⟩=some (.int .i64 raw):=by simpa using h0
  obtain ⟨c0,c1,c2',c3,c4,c5,c6,c7,c8,c9⟩:=HK.out _ hB;clear h0 hIs hn2;go_wp2_with fail
  go_still_tail 6,k_
  change wpList _ _ _ _ _ wk.drew;replace hB:=hB.drew;have q1:wk.drew.cell? ⟨b2,o2,none⟩=some (.int .i64 raw):=q0;generalize wk.drew=w5 at *;obtain ⟨d0,d1,d2⟩:=HKp.out _ hB;have hS:=HS1.out raw w5 d0 d1 d2 o_ o_
  go_wp2_with fail;refine hS.mono ?_;rintro e w2 ⟨rfl,hR2,hg2⟩;go_wp2_with fail;go_ret;exact ⟨rfl,hR2,(qae (ht_ HB0.out hB)).trans hg2⟩
 ·rw [if_neg d_] at hr3 ⊢
  rw [if_neg (show ¬ (16:Int)=8 by decide)] at HBy
  go_enter func145,ntmps145
  go_wp2_with fail;rw [← HW.out];refine uq_ (HRw.out _ (HFW.out.below hB) (HIn.out.below hB) (HT.out.below hB) (HRg.out.below hB)) hB fun wk hB=>?_;obtain ⟨c0,c1,c2,c3,c4,c5,c6,c7,c8,c9⟩:=HK.out _ hB;go_wp2_with fail;refine (HBy.out _ (HFW.out.below hB)).mono ?_;rintro e wk ⟨A2,n2,c2,rfl,hIs,hb⟩;replace hB:=ht_ hB hb;clear hb;obtain ⟨b2,o2,rfl,hbl,h0⟩:=hIs.at1 (k:=0) s_
  obtain ⟨b3,o3,e3,-,h1⟩:=hIs.at1 (k:=1) s_
  cases e3
  have hn2:=hIs.1;obtain rfl:n2=2:=by simpa using hn2
  have q0:wk.cell? ⟨b2,o2,none⟩=some (.int .i64 (raw / 256)):=by simpa using h0
  have q2:wk.cell? ⟨b2,o2+1,none⟩=some (.int .i64 (raw % 256)):=by simpa using h1
  obtain ⟨c0,c1,c2',c3,c4,c5,c6,c7,c8,c9⟩:=HK.out _ hB;clear h0 h1 hIs hn2;go_wp2_with fail
  go_still_tail 6,k_
  change wpList _ _ _ _ _ wk.drew;replace hB:=hB.drew;have q1:wk.drew.cell? ⟨b2,o2,none⟩=some (.int .i64 (raw / 256)):=q0;have q3:wk.drew.cell? ⟨b2,o2+1,none⟩=some (.int .i64 (raw % 256)):=q2;have hb2l:b2<wk.drew.heap.size:=hbl;generalize wk.drew=w5 at *;obtain ⟨d0,d1,d2⟩:=HKp.out _ hB;obtain ⟨e0,e1,e2,e3,e4,e5,e6,e7,e8,e9⟩:=HK.out _ hB;have hS:=HS1.out (raw / 256) w5 d0 d1 d2 o_ o_
  have hnB:=row_ne d2 q1;have hPB:w.heap.size≠B:=o_
  have hPw:w.heap.size<w5.heap.size:=Nat.lt_of_lt_of_le (by rw [HW.out];simp) hB.size
  go_wp2_with fail;refine hS.mono ?_;rintro e w2 ⟨rfl,hR2,hg2⟩;have g0:=(qaf hg2 (p:=⟨w.heap.size,3,none⟩) hPw hPB).trans e3;have g1:=(qaf hg2 (p:=⟨b2,o2+1,none⟩) hb2l hnB).trans q3;have hb22:b2<w2.heap.size:=Nat.lt_of_lt_of_le hb2l hg2.size;have d0':=(qaf hg2 (p:=⟨Q,0,none⟩) (by have:=HB0.out.size;have:=hB.size;show Q<_;omega) hQB).trans d0
  have d1':=(qaf hg2 (p:=⟨X,4,none⟩) (by have:=HB0.out.size;have:=hB.size;show X<_;omega) hXB).trans d1
  have HG2:=hj_ ((qae (row:=some B) (ht_ HB0.out hB)).trans hg2);clear q0 q1 q2 q3 hS c0 c1 c2' c3 c4 c5 c6 c7 c8 c9 e0 e1 e2 e3 e4 e5 e6 e7 e8 e9 d0 d1 d2 hg2;go_wp2_with fail
  go_still_tail 6,k_
  change wpList _ _ _ _ _ w2.drew;have g2:w2.drew.cell? ⟨Q,0,none⟩=some (.slice (some ⟨B,0,none⟩) 512 512):=d0';have g3:w2.drew.cell? ⟨X,4,none⟩=some (.int .i64 ad):=d1';have g4:RowAt w2.drew B (pgRow (pg.set (ad-1+co).toNat (u8v (raw / 256)))) 5:=hR2;have HG3:=hj_ (HG2.out.trans (qae (row:=some B) (Below.refl w2.heap.size w2).drew));generalize w2.drew=w6 at *;have hS2:=HS2.out trivial (pg.set (ad-1+co).toNat (u8v (raw / 256))) (raw % 256) w6 g2 g3 g4 (by rw [List.length_set];exact hlen) o_ o_
  go_wp2_with fail;refine hS2.mono ?_;rintro e w7 ⟨rfl,hR7,hg7⟩;go_wp2_with fail;go_ret;exact ⟨rfl,hR7,HG3.out.trans hg7⟩
theorem qyi (p:PC) (X:Nat) (s:ByteArray) (w:World) (hX:X<w.heap.size) (cx:w.cell? ⟨X,2,none⟩=some (.string s)) :
  Rt 205 #[p.val,.pointer (some ⟨X,0,none⟩)] w (.bool (decide (p.s=s))):=by
 obtain ⟨ps,pf,pw,pA,pn,pc⟩:=p;show Rt 205 #[.agg #[.string ps,.int .i64 pf,.int .i64 pw,.slice pA pn pc],.pointer (some ⟨X,0,none⟩)] w (.bool (decide (ps=s)))
 have hbq:=q1w ps s;obtain ⟨W,HW,HB0,HK⟩:=bx4 w (.string ps) (.int .i64 pf) (.int .i64 pw) (.slice pA pn pc) 87;have hB:=Below.refl W.heap.size W;obtain ⟨c0,c1,c2,c3⟩:=HK.out W hB;have d0:=(HB0.out.cell (p:=⟨X,2,none⟩) hX).trans cx;generalize decide (ps=s)=q at *
 go_enter func205,ntmps205
 go_wp2_with fail;rw [← HW.out];go_wp2_with fail;go_ret;exact ⟨rfl,HB0.out⟩
theorem qyj (A0:Option Addr) (n0 d0:Nat) (A1:Option Addr) (n1 d1:Nat) (A2:Option Addr) (n2 d2:Nat) (P:List PC) (x:Fx) (p:PC) (w:World) (hp:shPr.In w A1 n1 P) (hn:n1≤9223372036854775806) (hx:pcF P x.pr=some p) :
  Calls prog 143 #[.agg #[.slice A0 n0 d0,.slice A1 n1 d1,.slice A2 n2 d2],x.val] w fun e w'=>e=.returned p.val∧Below w.heap.size w w':=by
 obtain ⟨rfl,_⟩:=id hp;have hnn:¬ pcI P x.pr<0:=fun h=>by rw [qgv.1 h] at hx;cases hx
 have hat:=pcI_at hnn;rw [hx] at hat;have hge:=pcI_ge P x.pr;have hlt:=pcI_lt P x.pr;obtain ⟨k,hk⟩:∃ k:Nat,pcI P x.pr=k:=⟨(pcI P x.pr).toNat,o_⟩
 have hkl:k<P.length:=o_
 rw [hk,show ((k:Int).toNat)=k by omega,qa1 hkl] at hat
 injection hat with hat
 obtain ⟨ch,pt,pr,un,ad,ph,cb⟩:=x;dsimp only at hk;show Calls prog 143 #[.agg #[.slice A0 n0 d0,.slice A1 P.length d1,.slice A2 n2 d2],.agg #[.int .i64 ch,.int .i64 pt,.string pr,.int .i64 un,.int .i64 ad,.int .i64 ph,.string cb]] w fun e w'=>e=.returned p.val∧Below w.heap.size w w'
 obtain ⟨W,HW,HB0,HK⟩:=bx3_7_4 w (.slice A0 n0 d0) (.slice A1 P.length d1) (.slice A2 n2 d2) 26 (.int .i64 ch) (.int .i64 pt) (.string pr) (.int .i64 un) (.int .i64 ad) (.int .i64 ph) (.string cb) 45 (.string ⟨#[]⟩) (.int .i64 0) (.int .i64 0) (.slice none 0 0) 87;have hB:=Below.refl W.heap.size W;obtain ⟨c0,c1,c2,c3,c4,c5,c6,c7,c8,c9,c10,c11,c12,c13⟩:=HK.out W hB;have hsz:w.heap.size+1<W.heap.size:=by rw [HW.out];simp
 have hsz2:w.heap.size+1+1<W.heap.size:=by rw [HW.out];simp
 have HIx:=hj_ (fun wk (hB:Below W.heap.size W wk) (hl:shPr.In wk A1 P.length P)=>(show Rt 63 #[.slice A1 P.length d1,.func (.func 205) #[] #[.pointer (some ⟨w.heap.size+1,0,none⟩)]] wk (.int .i64 (k:Int)) from by
  rw [← hk];exact qbq 205 #[.pointer (some ⟨w.heap.size+1,0,none⟩)] (fun p=>decide (p.s=pr)) A1 P.length d1 P wk (enters_of func205 k_ rfl) hl o_
   (fun i h W' hW'=>qyi P[i] _ pr W' (by have:=hB.size;have:=hW'.size;omega) (HK.out W' (ht_ hB hW')).2.2.2.2.2.1)))
 have HP:=hj_ (hp.below HB0.out);have hfr:∀ w',Below W.heap.size W w'→w'.frozen? ⟨w.heap.size+1+1,0,none⟩=false∧w'.frozen? ⟨w.heap.size+1+1,1,none⟩=false∧w'.frozen? ⟨w.heap.size+1+1,2,none⟩=false∧w'.frozen? ⟨w.heap.size+1+1,3,none⟩=false:=fun w' h=>by
  have key:∀ j,w'.frozen? ⟨w.heap.size+1+1,j,none⟩=false:=fun j=>by
   refine (h.frozen (p:=⟨w.heap.size+1+1,j,none⟩) hsz2).trans ?_;rw [HW.out];exact World.frozen?_alloc_at _ _ _ _ s_
  exact ⟨key 0,key 1,key 2,key 3⟩
 have HFr:=hj_ hfr;have hmf:∀ (fn:Fn) (first cap:Array Value) (w:World),(Instr.makeFunc fn first cap).run prog w=.ok (.func fn first cap) w:=fun _ _ _ _=>rfl
 clear hp hnn hge hlt hk hx hsz hsz2 hfr
 go_enter func143,ntmps143
 go_wp2_with fail;rw [← HW.out];obtain ⟨f0,f1,f2,f3⟩:=HFr.out _ hB;obtain ⟨b,o,rfl,hbl,hcell⟩:=pc_at HP.out o_
 have HC:=hj_ (fun (w':World) (h:Below W.heap.size W w')=>And.intro ((h.cell (p:=⟨b,o+k*4,none⟩) hbl).trans (hcell k hkl).1) (And.intro ((h.cell (p:=⟨b,o+k*4+1,none⟩) hbl).trans (hcell k hkl).2.1) (And.intro ((h.cell (p:=⟨b,o+k*4+2,none⟩) hbl).trans (hcell k hkl).2.2.1) ((h.cell (p:=⟨b,o+k*4+3,none⟩) hbl).trans (hcell k hkl).2.2.2))))
 have HPS:=hj_ (fun (w':World) (h:Below W.heap.size W w')=>HP.out.below h)
 have i0:(0:Int)≤(k:Int):=o_
 have i1:(k:Int)<(P.length:Int):=o_
 clear hcell;rw [← hat] at HC;clear hat;obtain ⟨ps,pf,pw,pA,pn,pc⟩:=p;dsimp only at HC;replace hB:=q18 hB 1;obtain ⟨c0,c1,c2,c3,c4,c5,c6,c7,c8,c9,c10,c11,c12,c13⟩:=HK.out _ hB;obtain ⟨f0,f1,f2,f3⟩:=HFr.out _ hB
 go_region_with (go_at_call 63;refine (HIx.out _ (by first | exact hB | (repeat' first | exact br_ | assumption | apply Below.drew | apply q18 | refine Below.alloc ?_ ?_ _ | refine Below.setCell ?_ ?_ _ | refine Below.trans ?_ (Below.mono ‹_› ?_) | omega | (simp;omega) | simp)) (HPS.out _ (by first | exact hB | (repeat' first | exact br_ | assumption | apply Below.drew | apply q18 | refine Below.alloc ?_ ?_ _ | refine Below.setCell ?_ ?_ _ | refine Below.trans ?_ (Below.mono ‹_› ?_) | omega | (simp;omega) | simp)))).mono ?_;rintro e wk ⟨rfl,hb⟩;have hBk:=hB.trans (hb.mono (by first | exact hB.size | simp));clear hb;obtain ⟨c0,c1,c2,c3,c4,c5,c6,c7,c8,c9,c10,c11,c12,c13⟩:=HK.out _ hBk;obtain ⟨f0,f1,f2,f3⟩:=HFr.out _ hBk;obtain ⟨q0,q1,q2,q3⟩:=HC.out _ hBk;have hbw:=Nat.lt_of_lt_of_le hbl hBk.size)
 all_goals
  have hz:=ht_ HB0.out hBk;go_wp2_with fail
  (try simp only [Exit.inBlock,Exit.then])
  refine bodyPost_ret (v:=.agg #[.string ps,.int .i64 pf,.int .i64 pw,.slice pA pn pc]) ?_ rfl ⟨rfl,?_⟩
  ·rw [qlt rfl]
   go_simp
  ·(repeat' first | exact br_ | assumption | apply Below.drew | apply q18 | refine Below.alloc ?_ ?_ _ | refine Below.setCell ?_ ?_ _ | refine Below.trans ?_ (Below.mono ‹_› ?_) | omega | (simp;omega) | simp)
def pgL (U:List (Int × Nat)):List (Int × Value):=U.map fun p=>(p.1,.slice (some ⟨p.2,0,none⟩) 512 512)
def q00p:List UInt8:=List.replicate 512 0
theorem qhj (U:List (Int × Nat)) (u:Int) (B:Nat):pgL U ++ [(u,.slice (some ⟨B,0,none⟩) 512 512)]=pgL (U ++ [(u,B)]):=by unfold pgL;simp
def pgB (U:List (Int × Nat)) (u:Int):Option Nat:=(U.find? fun p=>decide (p.1=u)).map (·.2)
theorem qdc (U:List (Int × Nat)) (u:Int):lookL (pgL U) u=(pgB U u).map fun B=>.slice (some ⟨B,0,none⟩) 512 512:=by
 unfold lookL
 suffices h:∀ (U:List (Int × Nat)) (i:Nat),(findL (pgL U) u i).map (·.2)=(pgB U u).map fun B=>Value.slice (some ⟨B,0,none⟩) 512 512 from h U 0
 intro U
 induction U with
 | nil=>intro i;rfl
 | cons p U ih =>
  intro i;obtain ⟨a,B⟩:=p;have h:=ih (i+1);unfold pgL pgB at h ⊢;simp only [List.map_cons,findL,List.find?_cons]
  by_cases hk:u=a
  ·subst hk;simp
  ·have hk':¬ a=u:=fun e=>hk e.symm
   simp only [hk,hk',if_false,decide_false];exact h
theorem qyg (M B:Nat) (U:List (Int × Nat)) (u:Int) (w:World) (hM:MapAt iK w M (pgL U)) (hu:pgB U u=some B) :
  Rt 141 #[.map (some M),.int .i64 u] w (.slice (some ⟨B,0,none⟩) 512 512):=by
 have hB:=Below.refl w.heap.size w;have hlv:lookV false (pgL U) u (.slice none 0 0)=.slice (some ⟨B,0,none⟩) 512 512:=by
  unfold lookV;rw [if_neg d_,qdc,hu]
  rfl
 have HLV:=hj_ hlv;have HM:=hj_ hM;clear hlv hM;have heq:=fun (w:World) (a:Option Addr) (n c:Nat)=>Lib.run_eql_slice_nil (P:=prog) w 194 5 a n c 0 0 underlying194
 go_enter func141,ntmps141
 go_wp2_with (at_lookup;refine q002 _ rfl _ _ _ _ rfl _ _ underlying203 iK (KeyTy.int underlying3) M (pgL U) u rfl rfl HM.out (.slice none 0 0) s_ ?_;rw [HLV.out])
 go_ret;exact ⟨rfl,hB⟩
theorem qyf (M:Nat) (U:List (Int × Nat)) (u:Int) (w:World) (hM:MapAt iK w M (pgL U)) (hu:pgB U u=none) :
  Calls prog 141 #[.map (some M),.int .i64 u] w fun e w'=>e=.returned (.slice (some ⟨w.heap.size,0,none⟩) 512 512)∧RowAt w' w.heap.size (pgRow q00p) 5∧MapAt iK w' M (pgL (U ++ [(u,w.heap.size)]))∧w.grownBy w' (some M):=by
 have hB:=Below.refl w.heap.size w;have hln:lookL (pgL U) u=none:=by rw [qdc,hu];rfl
 have hlv:lookV false (pgL U) u (.slice none 0 0)=.slice none 0 0:=by
  unfold lookV;rw [if_neg d_,hln]
  rfl
 have hl2:lookV false (pgL (U ++ [(u,w.heap.size)])) u (.slice none 0 0)=.slice (some ⟨w.heap.size,0,none⟩) 512 512:=by
  rw [← qhj];unfold lookV;rw [if_neg d_,qd4,hln]
  simp
 have HLV:=hj_ hlv;have HL2:=hj_ hl2;have HM:=hj_ hM;have HN:=hj_ hln;have hmk:∀ w,(Instr.makeSlice 194 (.int .i64 512) (.int .i64 512)).run prog w=.ok (.slice (some ⟨w.heap.size,0,none⟩) 512 512) (w.alloc (.cells (pgRow q00p) 5)):=fun w=>k_
 obtain ⟨Z,hZ⟩:=ex_ (pgRow q00p);rw [← hZ] at hmk ⊢;clear hlv hM hl2 hln hZ;have hb1:Below w.heap.size w (w.alloc (.cells Z 5)):=hB.alloc lr_ _;have HM1:=hj_ (HM.out.below hb1);have HR1:=hj_ (RowAt.fresh w Z 5);have HMl:=hj_ HM.out.lt;have HB1:=hj_ hb1;clear hb1;have heq:=fun (w:World) (a:Option Addr) (n c:Nat)=>Lib.run_eql_slice_nil (P:=prog) w 194 5 a n c 0 0 underlying194
 go_enter func141,ntmps141
 go_wp2_with (first | (at_lookup;refine q002 _ rfl _ _ _ _ rfl _ _ underlying203 iK (KeyTy.int underlying3) M (pgL U) u rfl rfl HM.out (.slice none 0 0) s_ ?_;rw [HLV.out]) | (at_mapUpdate;refine q004 _ rfl _ _ _ _ rfl _ _ underlying203 iK (KeyTy.int underlying3) M (pgL U) u (.slice (some ⟨w.heap.size,0,none⟩) 512 512) rfl rfl rfl HM1.out HN.out ?_;intro w5 hm5 hg5;rw [qhj] at hm5;have HM5:=hj_ hm5;have HG5:=hj_ hg5;clear hm5 hg5) | (at_lookup;refine q002 _ rfl _ _ _ _ rfl _ _ underlying203 iK (KeyTy.int underlying3) M (pgL (U ++ [(u,w.heap.size)])) u rfl rfl HM5.out (.slice none 0 0) s_ ?_;rw [HL2.out]))
 go_ret;refine ⟨rfl,?_,HM5.out,(qae HB1.out).trans HG5.out⟩;exact (HG5.out.block _ HR1.out.lt (by have:=HMl.out;intro e;injection e with e;omega)).trans HR1.out
theorem infoFm:(prog.info? 270).map (fun i=>(i.zero,i.size,i.bytes))=some (some (.agg #[.int .i64 0,.string ⟨#[]⟩]),2,24):=k_
theorem fm_one (x:Int) (s:ByteArray):∀ u ∈ [Value.int .i64 x,.string s],u.oneCell' = true:=by simp;exact ⟨rfl,rfl⟩
def frmG (used:Int→Bool) (c:Int→List UInt8):Nat→List Fm
 | 0=>[]
 | n+1=>frmG used c n ++ (if used ((n:Int)+1) then [⟨(n:Int)+1,⟨(c ((n:Int)+1)).toArray⟩⟩] else [])
theorem q9k (used:Int→Bool) (c:Int→List UInt8):∀ n,(frmG used c n).length≤n
 | 0=>Nat.le_refl _
 | n+1=>by
  have:=q9k used c n
  rw [frmG,List.length_append]
  cases used ((n:Int)+1) <;> simp <;> omega
def PgI (S:Nat) (w:World) (M:Nat) (U:List (Int × Nat)) (c:Int→List UInt8):Prop :=
 MapAt iK w M (pgL U)∧S≤M∧∀ u B,pgB U u=some B→S≤B∧B≠M∧RowAt w B (pgRow (c u)) 5∧(c u).length=512
theorem qhl (w:World) (B:Nat) (s:List UInt8) (h:RowAt w B (pgRow s) 5) (hs:s.length=512) :
  (convert 194 9 (.slice (some ⟨B,0,none⟩) 512 512)).run prog w=.ok (.string ⟨s.toArray⟩) w:=by
 have h:=run_convert_bytes_back (P:=prog) w 194 9 5 ⟨B,0,none⟩ 512 s underlying194 underlying5 underlying9 (fun j hj=>by
  have hc:=h.cell (qhk hj);rw [show ((⟨B,0,none⟩:Addr).add j)=⟨B,j,none⟩ by unfold Addr.add;split <;> simp_all,hc])
 rw [hs] at h;exact h
theorem qu0 (S M:Nat) (U:List (Int × Nat)) (c:Int→List UInt8) (w:World) (h:PgI S w M U c) :
  Calls prog 146 #[.map (some M)] w fun e w'=>∃ r,e=.returned r∧shFm.Out 270 (frmG (fun u=>(pgB U u).isSome) c 8) w r w':=by
 have HI:=hj_ h;have HLV:=hj_ (fun u=>show lookV true (pgL U) u (.slice none 0 0)=.tuple #[(match pgB U u with | some B=>.slice (some ⟨B,0,none⟩) 512 512 | none=>.slice none 0 0),.bool (pgB U u).isSome] by
  unfold lookV;rw [if_pos rfl,qdc]
  cases pgB U u <;> rfl)
 have hB:=Below.refl w.heap.size w;have HB:=hj_ hB;clear h
 go_enter func146,ntmps146
 go_wp2_with fail
 go_loopw [3,4] (fun vo iv wr=>∃ k:Nat,k≤8∧iv=.int .i64 ((k:Int)+1)∧wr.ownsRow w.heap.size 270 2 vo (frmG (fun u=>(pgB U u).isSome) c k).length (shFm.vs (frmG (fun u=>(pgB U u).isSome) c k))∧Below w.heap.size w wr) (fun _ iv _=>9-(intOf iv).toNat)
 case atStart=>exact ⟨0,Nat.zero_le _,rfl,World.ownsRow_nil _ _ _ _,HB.out⟩
 case round =>
  obtain ⟨k,hk,rfl,hown,hb⟩:=hrel;have hsz:=hb.size;have Hb:=hj_ hb;have hlen:=q9k (fun u=>(pgB U u).isSome) c k
  have HM:=hj_ (HI.out.1.below hb)
  by_cases hlt:k<8
  case pos =>
   have hk1:(k:Int)+1≤8:=o_
   have w1:IntKind.i64.wrap ((k:Int)+1+1)=(k:Int)+1+1:=IntWalk.i64_in _ o_
   have hst:frmG (fun u=>(pgB U u).isSome) c (k+1)=frmG (fun u=>(pgB U u).isSome) c k ++ (if (pgB U ((k:Int)+1)).isSome then [⟨(k:Int)+1,⟨(c ((k:Int)+1)).toArray⟩⟩] else []):=rfl
   have hlv:=HLV.out ((k:Int)+1);have hpg:=HI.out.2.2 ((k:Int)+1);obtain ⟨Ao,co,rfl⟩:=qfu hown
   cases hu:pgB U ((k:Int)+1) with
   | none =>
    rw [hu] at hlv hst;rw [if_neg s_,List.append_nil] at hst
    have HLk:=hj_ (show lookV true (pgL U) ((k:Int)+1) (.slice none 0 0)=.tuple #[.slice none 0 0,.bool false] from hlv)
    have HSt:=hj_ hst;have HOw:=hj_ hown;clear hlv hst hpg hown hlen;go_wp2_with (at_lookup;refine q002 _ rfl _ _ _ _ rfl _ _ underlying203 iK (KeyTy.int underlying3) M (pgL U) ((k:Int)+1) rfl rfl HM.out (.slice none 0 0) s_ ?_;rw [HLk.out])
    go_roundw
    case rel=>exact ⟨k+1,o_,by go_num,by rw [HSt.out];exact HOw.out,Hb.out⟩
    case measure=>simp [intOf];omega
   | some B =>
    rw [hu] at hlv hst;obtain ⟨-,-,hR,hcl⟩:=hpg B hu;rw [if_pos s_] at hst
    have HLk:=hj_ (show lookV true (pgL U) ((k:Int)+1) (.slice none 0 0)=.tuple #[.slice (some ⟨B,0,none⟩) 512 512,.bool true] from hlv)
    have hcv:=qhl wr B (c ((k:Int)+1)) (hR.below hb hR.lt) hcl;have hvs:shFm.vs (frmG (fun u=>(pgB U u).isSome) c (k+1))=shFm.vs (frmG (fun u=>(pgB U u).isSome) c k) ++ [.int .i64 ((k:Int)+1),.string ⟨(c ((k:Int)+1)).toArray⟩]:=by rw [hst,Sh.vs_append,Sh.vs_one1];rfl
    have hln:(frmG (fun u=>(pgB U u).isSome) c (k+1)).length=(frmG (fun u=>(pgB U u).isSome) c k).length+1:=by rw [hst,List.length_append];rfl
    have HSt:=hj_ (And.intro hln hvs);generalize (⟨(c ((k:Int)+1)).toArray⟩:ByteArray)=str at *;clear hlv hst hpg hR hcl hu hln hvs;go_wp2_with (first | (at_lookup;refine q002 _ rfl _ _ _ _ rfl _ _ underlying203 iK (KeyTy.int underlying3) M (pgL U) ((k:Int)+1) rfl rfl HM.out (.slice none 0 0) s_ ?_;rw [HLk.out]) | (at_builtin;refine q003 rfl _ _ _ rfl w.heap.size _ _ 2 24 underlying157 infoFm rfl o_ _ (frmG (fun u=>(pgB U u).isSome) c k).length (shFm.vs (frmG (fun u=>(pgB U u).isSome) c k)) rfl hown [.int .i64 ((k:Int)+1),.string str] _ _ _ rfl (by first | rfl | simp) rfl (fm_one _ _) (by unfold maxLen;omega) o_ (by first | omega | (simp;omega) | simp) ?_;intro g cap w1 hown1 hg1))
    go_roundw
    case rel=>exact ⟨k+1,o_,by go_num,by rw [HSt.out.1,HSt.out.2];exact hown1,q1a Hb.out lr_ hown hg1⟩
    case measure=>simp [intOf];omega
  case neg =>
   obtain rfl:k=8:=o_
   obtain ⟨Ao,co,rfl⟩:=qfu hown;have HOw:=hj_ hown;clear hown hlen;go_wp2_with fail;go_ret;exact ⟨_,rfl,Ao,co,rfl,HOw.out,Hb.out⟩
end Go.Proofs.YtabhjdmmfdfpeaaGreatDoor
