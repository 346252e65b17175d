/- PowerHangs: for every input the law returns true, and its arguments read behind the call as they read before. The package variables that the row lists hold what the program's text lays. -/
import Derived.Test.YtabhjdmmfdfpeaaGreatDoorQPwL
import Derived.Test.YtabhjdmmfdfpeaaGreatDoorQColA
import Derived.Test.YtabhjdmmfdfpeaaGreatDoorKLaw
import Derived.Test.YtabhjdmmfdfpeaaGreatDoorHPowerHangs
import Derived.Test.YtabhjdmmfdfpeaaGreatDoorCards
import Derived.Test.YtabhjdmmfdfpeaaGreatDoorTie
import Derived.SevenTiedAt
import Derived.SizedLaws
import Derived.Test.YtabhjdmmfdfpeaaGreatDoorKUp
namespace Go.Proofs.YtabhjdmmfdfpeaaGreatDoor
set_option maxHeartbeats 32000000
set_option maxRecDepth 100000
open _root_.Go.Proofs.Tryz
open Go.RowKit
theorem q0ld:(Tryz.prog.info? 9).map (fun i=>(i.zero,i.size,i.bytes))=some (some (.string ⟨#[]⟩),1,16):=k_
theorem q0o6 (x:ByteArray):∀ u ∈ [Value.string x],u.oneCell' = true:=by simp;rfl
theorem q0lb (A:Option Addr) (n c:Nat) (l:List ByteArray) (v:ByteArray) (w:World) (hl:Ss w A n l) (hn:n≤1000) :
  Calls Tryz.prog 54 #[.slice A n c,.string v] w fun e w'=>e=.returned (.int .i64 (idxOf (fun x=>decide (x=v)) l))∧Below w.heap.size w w':=by
 obtain ⟨rfl,_⟩:=id hl;have HL:=hj_ hl;obtain ⟨E,hE⟩:=ex_ (idxOf (fun x=>decide (x=v)) l)
 rw [← hE];have HE:=hj_ hE;have HN0:=hj_ hn;clear hl hE hn
 go_enter Tryz.func54,Tryz.ntmps54
 go_wp2_with fail
 go_loopw [8] (fun iv wr=>∃ k:Nat,k≤l.length∧iv=.int .i64 k∧(∀ j (h:j<l.length),j<k→decide (l[j]=v)=false)∧Below w.heap.size w wr) (fun iv _=>l.length-(intOf iv).toNat)
 case atStart=>exact ⟨0,Nat.zero_le _,rfl,fun j _ h=>absurd h (Nat.not_lt_zero _),br_⟩
 case round =>
  obtain ⟨k,hk,rfl,hall,hBr⟩:=hrel;have HAll:=hj_ hall;clear hall
  by_cases hlt:k<l.length
  ·obtain ⟨b,o,rfl,hbl,hcell⟩:=HL.out.at1 (k:=k) hlt
   have p0:=(hBr.cell (p:=⟨b,o+k,none⟩) hbl).trans hcell;have hbw:b<wr.heap.size:=Nat.lt_of_lt_of_le hbl hBr.size;have HY:=hj_ (show l[k]=v→E=k from fun h=>HE.out.trans (qbd (p:=fun x=>decide (x=v)) hlt (fun i hi=>HAll.out i o_ hi) (decide_eq_true h)))
   have HN:=hj_ (show ¬ l[k]=v→∀ j (h:j<l.length),j<k+1→decide (l[j]=v)=false from fun h j hj hjk=>by
    rcases Nat.lt_or_eq_of_le (Nat.le_of_lt_succ hjk) with h1 | h1
    ·exact HAll.out j hj h1
    ·subst h1;exact decide_eq_false h)
   have i0:(0:Int)≤(k:Int):=o_
   have i1:(k:Int)<(l.length:Int):=o_
   have HBr:=hj_ hBr;have HLt:=hj_ hlt;have w0:IntKind.i64.wrap ((k:Int)+1)=(k:Int)+1:=IntWalk.i64_in _ (oh_ HN0.out)
   clear hcell hBr HAll;generalize l[k]=x at *;have hbq:=q1w v x
   by_cases hx:x=v
   ·have hy:=HY.out hx
    subst hx hy;rw [decide_eq_true rfl] at hbq;go_wp2_with fail;go_ret;exact ⟨rfl,HBr.out⟩
   ·have hn2:=HN.out hx
    have HN2:=hj_ hn2;rw [decide_eq_false (fun e=>hx e.symm)] at hbq
    clear hn2 HN HY;go_wp2_with fail
    go_roundw
    case rel=>exact ⟨k+1,HLt.out,by go_num,HN2.out,HBr.out⟩
    case measure=>simp [intOf];have:=HLt.out;omega
  ·obtain rfl:k=l.length:=by omega
   have he:E=-1:=by
    have h1:=qb9 (p:=fun x=>decide (x=v)) l
    by_cases h2:0≤idxOf (fun x=>decide (x=v)) l
    ·obtain ⟨x,hx,hp⟩:=List.any_eq_true.1 (idxA.1 h2)
     obtain ⟨j,hj,rfl⟩:=List.getElem_of_mem hx;rw [HAll.out j hj hj] at hp
     cases hp
    ·have:=HE.out;omega
   subst he;go_wp2_with fail;go_ret;exact ⟨rfl,hBr⟩
theorem q0ky (A:Option Addr) (n c:Nat) (l:List ByteArray) (v:ByteArray) (w:World) (hl:Ss w A n l) (hn:n≤1000) :
  Calls Tryz.prog 21 #[.slice A n c,.string v] w fun e w'=>e=.returned (.bool (l.any fun x=>decide (x=v)))∧Below w.heap.size w w':=by
 have HI:=hj_ (q0lb A n c l v w hl hn);have hq:(l.any fun x=>decide (x=v))=decide (0≤idxOf (fun x=>decide (x=v)) l):=by
  rw [Bool.eq_iff_iff,decide_eq_true_eq,idxA]
 rw [hq];generalize idxOf (fun x=>decide (x=v)) l=i at *
 clear hl hq hn
 go_enter Tryz.func21,Tryz.ntmps21
 go_wp2_with fail;refine HI.out.mono ?_;rintro e wk ⟨rfl,hb⟩;go_wp2_with fail;go_ret;exact ⟨by first | rfl | simp,hb⟩
def ovL (most:Int) (C:List Gl):List ByteArray:=(C.filter fun x=>decide (most<x.st)).map (·.s)
theorem q0lm (most:Int) (C:List Gl) (x:Gl):ovL most (C ++ [x])=if most<x.st then ovL most C ++ [x.s] else ovL most C:=by
 unfold ovL;rw [List.filter_append,List.map_append]
 by_cases h:most<x.st
 ·have e:[x].filter (fun x=>decide (most<x.st))=[x]:=by simp [h]
  rw [if_pos h,e];rfl
 ·have e:[x].filter (fun x=>decide (most<x.st))=[]:=by simp [h]
  rw [if_neg h,e];simp
theorem q0ll (most:Int) (C:List Gl):(ovL most C).length≤C.length:=by unfold ovL;rw [List.length_map];exact List.length_filter_le _ _
theorem q0ob (A0:Option Addr) (n0 d0:Nat) (A1:Option Addr) (n1 d1:Nat) (A2:Option Addr) (d2:Nat) (P:List PC) (X:List Fx) (most:Int) (w:World) (hck:∀ w',Below w.heap.size w w'→Calls Tryz.prog 62 #[.agg #[.slice A0 n0 d0,.slice A1 n1 d1,.slice A2 X.length d2]] w' fun e w''=>e=.returned (.int .i64 0)∧Below w'.heap.size w' w'')
  (hp:shPr.In w A1 n1 P) (hn1:n1≤9223372036854775806) (hx:shX.In w A2 X.length X) (hX:X.length≤1000) (hW:WOk P X) (hmost:0≤most) :
  Calls Tryz.prog 20 #[.agg #[.slice A0 n0 d0,.slice A1 n1 d1,.slice A2 X.length d2],.int .i64 most] w fun e w'=>∃ C A c,e=.returned (.tuple #[.slice A (ovL most C).length c,.int .i64 0])∧Cbs P X C∧Ss w' A (ovL most C).length (ovL most C)∧Below w.heap.size w w':=by
 have HO:=hj_ (fun w' (hb:Below w.heap.size w w')=>q0ip A0 n0 d0 A1 n1 d1 A2 X.length d2 0 w' (fun w2 h2=>hck w2 (ht_ hb h2)))
 have HH:=hj_ (fun w' (hb:Below w.heap.size w w')=>q0l4 A0 n0 d0 A1 n1 d1 A2 d2 P X w' (hp.below hb) hn1 (hx.below hb) hX hW)
 have HXl:=hj_ hX;have hm0:¬ most<0:=o_
 obtain ⟨W,HW,HB0,HK⟩:=bx3 w (.slice A0 n0 d0) (.slice A1 n1 d1) (.slice A2 X.length d2) 26;have hB:=Below.refl W.heap.size W;obtain ⟨c0,c1,c2⟩:=HK.out W hB;clear hck hp hn1 hx hX hW hmost
 go_enter Tryz.func20,Tryz.ntmps20
 go_wp2_with fail;rw [← HW.out];go_wp2_with fail;refine uq_ (HO.out _ (ht_ HB0.out hB)) hB fun wk hB=>?_;obtain ⟨W1,hW1⟩:=ex_ (wk.alloc (.cells #[.slice A0 n0 d0,.slice A1 n1 d1,.slice A2 X.length d2] 75));have hb1:Below wk.heap.size wk W1:=by rw [hW1];exact (br_).alloc lr_ _
 have hx1:Cells W1 wk.heap.size [.slice A0 n0 d0,.slice A1 n1 d1,.slice A2 X.length d2]:=by rw [hW1];exact Cells.fresh wk [.slice A0 n0 d0,.slice A1 n1 d1,.slice A2 X.length d2] _
 have x0:=hx1.at_ (j:=0) rfl
 have x1:=hx1.at_ (j:=1) rfl
 have x2:=hx1.at_ (j:=2) rfl
 have hl1:=hx1.1;have HW1:=hj_ hW1;replace hB:=ht_ hB hb1;clear hb1 hx1 hW1 c0 c1 c2;go_wp2_with fail;rw [← HW1.out];go_wp2_with fail;refine (HH.out _ (ht_ HB0.out hB)).mono ?_;rintro e w5 ⟨C,A,c,rfl,hC,hI,hb⟩;have HC:=hj_ hC;have HI:=hj_ hI;have HB5:=hj_ (HB0.out.trans ((ht_ hB hb).mono HB0.out.size));have HLc:=hj_ (Nat.le_trans hC.len HXl.out);clear hC hI hb hB x0 x1 x2 hl1 hm0;go_wp2_with fail
 go_loopw [8,24] (fun vo iv wr=>∃ k:Nat,k≤C.length∧iv=.int .i64 k∧wr.ownsRow w5.heap.size 9 1 vo (ovL most (C.take k)).length (sv (ovL most (C.take k)))∧Below w5.heap.size w5 wr) (fun _ iv _=>C.length-(intOf iv).toNat)
 case atStart=>exact ⟨0,Nat.zero_le _,rfl,World.ownsRow_nil _ _ _ _,br_⟩
 case round =>
  obtain ⟨k,hk,rfl,hown,hB⟩:=hrel;obtain ⟨Ao,co,rfl⟩:=qfu hown
  by_cases hlt:k<C.length
  case neg =>
   obtain rfl:k=C.length:=o_
   rw [List.take_length] at hown ⊢;have HOw:=hj_ hown;have HBw:=hj_ (ht_ HB5.out hB);clear hown hB;go_wp2_with fail;go_ret2;exact ⟨C,_,_,rfl,HC.out,⟨rfl,Sl.of_own HOw.out⟩,HBw.out⟩
  case pos =>
   obtain ⟨b,o,rfl,hbl,hcell⟩:=gl_at HI.out o_
   obtain ⟨k0,k1,k2,k3⟩:=hcell k hlt;have p0:=(hB.cell (p:=⟨b,o+k*4,none⟩) hbl).trans k0;have p1:=(hB.cell (p:=⟨b,o+k*4+1,none⟩) hbl).trans k1;have p2:=(hB.cell (p:=⟨b,o+k*4+2,none⟩) hbl).trans k2;have p3:=(hB.cell (p:=⟨b,o+k*4+3,none⟩) hbl).trans k3;have hbw:b<wr.heap.size:=Nat.lt_of_lt_of_le hbl hB.size;have hstep:=q0lm most (C.take k) C[k];rw [← List.take_succ_eq_append_getElem hlt] at hstep;have hcl:(ovL most (C.take k)).length≤1000:=by
    have h1:=q0ll most (C.take k);rw [List.length_take] at h1
    have:=HLc.out;omega
   have i0:(0:Int)≤(k:Int):=o_
   have i1:(k:Int)<(C.length:Int):=o_
   have w0:IntKind.i64.wrap ((k:Int)+1)=(k:Int)+1:=IntWalk.i64_in _ (oh_ HLc.out)
   have HLt:=hj_ hlt;have HStep:=hj_ hstep;clear hcell k0 k1 k2 k3 hstep;generalize C[k]=x at *;obtain ⟨xs,xv,xa,xt⟩:=x;dsimp only at p0 p1 p2 p3 HStep;obtain ⟨W2,hW2⟩:=ex_ (wr.alloc (.cells #[.string xs,.int .i64 xv,.int .i64 xa,.int .i64 xt] 56));have hb2:Below wr.heap.size wr W2:=by rw [hW2];exact (br_).alloc lr_ _
   have hown2:=q0g2 hown fun b hq=>hb2.block b (q0g1 hown hq).2.1
   have HB2:=hj_ (ht_ hB hb2);have HW2:=hj_ hW2;have HS2:=hj_ (show wr.heap.size+1=W2.heap.size by rw [hW2];simp)
   have hx2:Cells W2 wr.heap.size [.string xs,.int .i64 xv,.int .i64 xa,.int .i64 xt]:=by rw [hW2];exact Cells.fresh wr [.string xs,.int .i64 xv,.int .i64 xa,.int .i64 xt] _
   have y0:=hx2.at_ (j:=0) rfl
   have y2:=hx2.at_ (j:=2) rfl
   have ly:=hx2.1;have HOw:=hj_ hown2;clear hb2 hW2 hx2 hown hB hown2;generalize hol:ovL most (C.take k)=ol at *;clear hol
   by_cases hm:most<xa
   ·have hst:=HStep.out
    rw [if_pos hm] at hst;have HSt:=hj_ hst;clear hst HStep;have hown:=HOw.out;have hsz:w5.heap.size≤W2.heap.size:=HB2.out.size;go_wp2_with (rw [← HW2.out];at_builtin;refine q003 rfl _ _ _ rfl w5.heap.size _ _ 1 16 Tryz.underlying57 q0ld rfl o_ _ ol.length (sv ol) rfl hown [.string xs] _ _ _ rfl HS2.out rfl (q0o6 _) (by unfold maxLen;omega) o_ hsz ?_;intro g cap w1 hown1 hg1)
    have HOn:=hj_ hown1;have HBn:=hj_ (HB2.out.grown hg1 HB2.out.size (fun r e=>(q0g1 hown e).1))
    clear hown1 hg1 hown
    go_roundw
    case rel=>exact ⟨k+1,HLt.out,by go_num,by rw [HSt.out,List.length_append,show sv (ol ++ [xs])=sv ol ++ [.string xs] by simp [sv]];exact HOn.out,HBn.out⟩
    case measure=>have:=HLt.out;simp [intOf];omega
   ·have hst:=HStep.out
    rw [if_neg hm] at hst;have HSt:=hj_ hst;clear hst HStep;go_wp2_with fail;rw [← HW2.out]
    go_roundw
    case rel=>exact ⟨k+1,HLt.out,by go_num,by rw [HSt.out];exact HOw.out,HB2.out⟩
    case measure=>have:=HLt.out;simp [intOf];omega
end Go.Proofs.YtabhjdmmfdfpeaaGreatDoor

namespace Go.Proofs.YtabhjdmmfdfpeaaGreatDoor
set_option maxHeartbeats 32000000
set_option maxRecDepth 100000
open _root_.Go.Proofs.Tryz
open Go.RowKit
theorem q0lr (w:World) (g:RG) (H:List Hd) (L:List (List PT)) (PL:List (PC × List Fea)) (X:List Fx) (most:Int) (hg:g.Is w H L PL X) (ht:Tab w) (hr:Rng w) :
  Calls Tryz.prog 6 #[.agg g.cs.toArray,.int .i64 most] w fun e w'=>e=.returned (.bool true)∧Below w.heap.size w w':=by
 obtain ⟨A0,n0,d0,A1,n1,d1,A2,n2,d2⟩:=g;show Calls Tryz.prog 6 #[.agg #[.slice A0 n0 d0,.slice A1 n1 d1,.slice A2 n2 d2],.int .i64 most] w fun e w'=>e=.returned (.bool true)∧Below w.heap.size w w'
 obtain rfl:n2=X.length:=hg.2.2.1.1;have HAw:=hj_ (fun w ht hr=>q0eb w ht hr)
 have HOw:=hj_ (fun w=>q0j6 A0 n0 d0 A1 n1 d1 A2 X.length d2 w)
 have HRt:=hj_ (fun w h=>q0lf A0 n0 d0 A1 n1 d1 A2 X.length d2 H L PL X w h)
 obtain ⟨W,HW,HB0,HK⟩:=bx3 w (.slice A0 n0 d0) (.slice A1 n1 d1) (.slice A2 X.length d2) 26;have hB:=Below.refl W.heap.size W;obtain ⟨c0,c1,c2⟩:=HK.out W hB;have HG:=hj_ (hg.below HB0.out);have HT:=hj_ (ht.below HB0.out);have HRg:=hj_ (hr.below HB0.out);have HFin:=hj_ (fun (w':World) (h:Below W.heap.size W w')=>ht_ HB0.out h)
 clear hg ht hr
 cases hrg:rg59 L PL X with
 | false =>
  rw [hrg] at HRt;clear hrg
  go_enter Tryz.func6,Tryz.ntmps6
  go_wp2_with fail;rw [← HW.out];go_wp2_with fail;refine uq_ (HRt.out _ HG.out) hB fun w1 hB=>?_;go_wp2_with fail;refine uq_ (HAw.out _ (HT.out.below hB) (HRg.out.below hB)) hB fun w2 hB=>?_;go_wp2_with fail;go_ret;exact ⟨rfl,HFin.out _ hB⟩
 | true =>
 rw [hrg] at HRt;have HRi:=hj_ (q0nq HG.out hrg);clear hrg
 by_cases hm:most<0
 case pos =>
  go_enter Tryz.func6,Tryz.ntmps6
  go_wp2_with fail;rw [← HW.out];go_wp2_with fail;refine uq_ (HRt.out _ HG.out) hB fun w1 hB=>?_;go_wp2_with fail;refine uq_ (HAw.out _ (HT.out.below hB) (HRg.out.below hB)) hB fun w2 hB=>?_;go_wp2_with fail;go_ret;exact ⟨rfl,HFin.out _ hB⟩
 case neg =>
 have HM:=hj_ (show 0≤most by omega)
 generalize hPP:PL.map Prod.fst=P at *;clear hPP;have HCb:=hj_ (fun w' (hb:Below W.heap.size W w')=>q0oa A0 n0 d0 A1 n1 d1 A2 d2 P X w' (HRi.out.below hb).ck (HRi.out.below hb).hp HRi.out.hn1 (HRi.out.below hb).hx (oh_ HRi.out.hX) HRi.out.hW)
 have HFu:=hj_ (fun w' (hb:Below W.heap.size W w')=>q0i4 A0 n0 d0 A1 n1 d1 A2 X.length d2 P X w' (HRi.out.below hb).ck (HRi.out.below hb).hp HRi.out.hn1 (HRi.out.below hb).hx (oh_ HRi.out.hX) HRi.out.hW HRi.out.hph)
 have HOv:=hj_ (fun w' (hb:Below W.heap.size W w')=>q0ob A0 n0 d0 A1 n1 d1 A2 d2 P X most w' (HRi.out.below hb).ck (HRi.out.below hb).hp HRi.out.hn1 (HRi.out.below hb).hx (oh_ HRi.out.hX) HRi.out.hW HM.out)
 have hbd:=And.intro (q0g8 HRi.out.hW 1) (And.intro (q0g8 HRi.out.hW 2) (q0g8 HRi.out.hW 3));have hX:=HRi.out.hX;have HSum:=hj_ (q0lt (P:=P) HRi.out.hph);have w12:IntKind.i64.wrap (phaseV P X 1+phaseV P X 2)=phaseV P X 1+phaseV P X 2:=IntWalk.i64_in _ o_
 have w123:IntKind.i64.wrap (phaseV P X 1+phaseV P X 2+phaseV P X 3)=phaseV P X 1+phaseV P X 2+phaseV P X 3:=IntWalk.i64_in _ o_
 clear hbd hX;generalize phaseV P X 1=s1 at *;generalize phaseV P X 2=s2 at *;generalize phaseV P X 3=s3 at *
 go_enter Tryz.func6,Tryz.ntmps6
 go_wp2_with fail;rw [← HW.out];go_wp2_with fail;refine uq_ (HRt.out _ HG.out) hB ?_;clear hB c0 c1 c2;intro w1 hB;obtain ⟨c0,c1,c2⟩:=HK.out _ hB;go_wp2_with fail;refine (HCb.out _ hB).mono ?_;rintro e w2 ⟨C,A3,c3,rfl,hC,hI,hb⟩;have HC:=hj_ hC;have HI:=hj_ hI;replace hB:=ht_ hB hb;clear hb c0 c1 c2 hC hI hm;obtain ⟨c0,c1,c2⟩:=HK.out _ hB;go_wp2_with fail;refine (HFu.out _ hB).mono ?_;rintro e w3 ⟨rfl,hb⟩;have HI3:=hj_ (HI.out.below hb);replace hB:=ht_ hB hb;clear hb c0 c1 c2;obtain ⟨c0,c1,c2⟩:=HK.out _ hB;have hwl3:w.heap.size<w3.heap.size:=Nat.lt_of_lt_of_le (by rw [HW.out];simp) hB.size
 obtain ⟨W4,hW4⟩:=ex_ (w3.alloc (.cells #[.int .i64 s1,.int .i64 s2,.int .i64 s3] 47));have hb4:Below w3.heap.size w3 W4:=by rw [hW4];exact (br_).alloc lr_ _
 have hx4:Cells W4 w3.heap.size [.int .i64 s1,.int .i64 s2,.int .i64 s3]:=by rw [hW4];exact Cells.fresh w3 [.int .i64 s1,.int .i64 s2,.int .i64 s3] _
 have HI4:=hj_ (HI3.out.below hb4);have HW4:=hj_ hW4;have HX4:=hj_ hx4;replace hB:=ht_ hB hb4;clear hb4 hx4 hW4;go_wp2_with fail;rw [← HW4.out];refine (HOv.out _ hB).mono ?_;rintro e w5 ⟨C5,A5,c5,rfl,hC5,hS5,hb⟩;have HI5:=hj_ (HI4.out.below hb);have HX5:=hj_ (HX4.out.below hb HX4.out.1);have HB5:=hj_ (ht_ hB hb);have HO5:=hj_ hS5;have HOm:=hj_ (show ∀ x ∈ C,((ovL most C5).any fun y=>decide (y=x.s))=decide (most<x.st) from fun x hx=>by
  rw [Bool.eq_iff_iff,List.any_eq_true,decide_eq_true_eq];have hmem:∀ {c:Gl},c ∈ C5↔c ∈ C:=fun {c}=>hC5.perm.mem_iff.trans HC.out.perm.mem_iff.symm
  constructor
  ·rintro ⟨y,hy,e⟩
   rw [decide_eq_true_eq] at e;subst e;unfold ovL at hy;rw [List.mem_map] at hy;obtain ⟨z,hz,e⟩:=hy;obtain ⟨hz1,hz2⟩:=List.mem_filter.1 hz;obtain ⟨k1,hk1,rfl⟩:=HC.out.mem.1 (hmem.1 hz1);obtain ⟨k2,hk2,rfl⟩:=HC.out.mem.1 hx;have e1:((gK X k1).headD fx0).cb=k1:=q0l0 (List.mem_filter.1 hk1).1;have e2:((gK X k2).headD fx0).cb=k2:=q0l0 (List.mem_filter.1 hk2).1;have e3:((gK X k1).headD fx0).cb=((gK X k2).headD fx0).cb:=e;rw [e1,e2] at e3;subst e3;exact of_decide_eq_true hz2
  ·intro h
   refine ⟨x.s,?_,decide_eq_true rfl⟩;unfold ovL;exact List.mem_map.2 ⟨x,List.mem_filter.2 ⟨hmem.2 hx,decide_eq_true h⟩,rfl⟩)
 have HOl:=hj_ (show (ovL most C5).length≤1000 by have:=q0ll most C5;have:=hC5.len;have:=HRi.out.hX;omega)
 have HCl:=hj_ (show C.length≤64 by have:=HC.out.len;have:=HRi.out.hX;omega)
 have HBdC:=hj_ (show ∀ k,k≤C.length→(0≤sb (·.st) (C.take k)∧sb (·.st) (C.take k)≤4294967296)∧0≤sb (·.v) (C.take k)∧sb (·.v) (C.take k)≤4294967296 from fun k hk=>by
  have hX:=HRi.out.hX;have hcl:=HCl.out;have h1:=sb_bd (f:=fun x:Gl=>x.st) (B:=67108864) (l:=C.take k) fun x hx=>by
   have:=HC.out.bd HRi.out.hW x (List.mem_of_mem_take hx);omega
  have h2:=sb_bd (f:=fun x:Gl=>x.v) (B:=64) (l:=C.take k) fun x hx=>by
   have:=HC.out.bd HRi.out.hW x (List.mem_of_mem_take hx);omega
  rw [List.length_take] at h1 h2;have h3:((min k C.length:Nat):Int)≤64:=o_
  have h4:((min k C.length:Nat):Int)*67108864≤64*67108864:=o_
  have h5:((min k C.length:Nat):Int)*64≤64*64:=o_
  omega)
 clear hb hC5 hS5 c0 c1 c2 hB hwl3;go_wp2_with fail
 go_loopw [11,12,49] (fun sv nv iv wr=>∃ k:Nat,k≤C.length∧iv=.int .i64 k∧sv=.int .i64 (sb (·.st) (C.take k))∧nv=.int .i64 (sb (·.v) (C.take k))∧Below w5.heap.size w5 wr) (fun _ _ iv _=>C.length-(intOf iv).toNat)
 case atStart=>exact ⟨0,Nat.zero_le _,rfl,rfl,rfl,br_⟩
 case round =>
  obtain ⟨k,hk,rfl,rfl,rfl,hB⟩:=hrel
  by_cases hlt:k<C.length
  case pos =>
   obtain ⟨b,o,rfl,hbl,hcell⟩:=gl_at HI5.out o_
   obtain ⟨k0,k1,k2,k3⟩:=hcell k hlt;have p0:=(hB.cell (p:=⟨b,o+k*4,none⟩) hbl).trans k0;have p1:=(hB.cell (p:=⟨b,o+k*4+1,none⟩) hbl).trans k1;have p2:=(hB.cell (p:=⟨b,o+k*4+2,none⟩) hbl).trans k2;have p3:=(hB.cell (p:=⟨b,o+k*4+3,none⟩) hbl).trans k3;have hbw:b<wr.heap.size:=Nat.lt_of_lt_of_le hbl hB.size;have hs1:=q0nv (fun x:Gl=>x.st) (C.take k) C[k]
   have hs2:=q0nv (fun x:Gl=>x.v) (C.take k) C[k]
   rw [← List.take_succ_eq_append_getElem hlt] at hs1 hs2;have hbd:=HBdC.out (k+1) hlt;rw [hs1,hs2] at hbd;have i0:(0:Int)≤(k:Int):=o_
   have i1:(k:Int)<(C.length:Int):=o_
   have w0:IntKind.i64.wrap ((k:Int)+1)=(k:Int)+1:=IntWalk.i64_in _ (oh_ HCl.out)
   have w8:IntKind.i64.wrap (sb (·.st) (C.take k)+C[k].st)=sb (·.st) (C.take k)+C[k].st:=IntWalk.i64_in _ (oh_ hbd.1)
   have w9:IntKind.i64.wrap (sb (·.v) (C.take k)+C[k].v)=sb (·.v) (C.take k)+C[k].v:=IntWalk.i64_in _ (oh_ hbd.2)
   have hct:=q0ky A5 (ovL most C5).length c5 (ovL most C5) C[k].s;have hom:=HOm.out C[k] (List.getElem_mem hlt);rw [hom] at hct;have HLt:=hj_ hlt;have HPu:=hj_ (And.intro hs1 hs2);have HPrev:=hj_ (show ∀ j (hj:j<C.length),j<k→∀ wz,Below w5.heap.size w5 wz→wz.cell? ⟨b,o+j*4,none⟩=some (.string C[j].s) from fun j hj _ wz hz=>(hz.cell (p:=⟨b,o+j*4,none⟩) hbl).trans (hcell j hj).1)
   have HUp:=hj_ (show ∀ j (hj:j<C.length),j<k→Op.bytesLess C[j].s.toList C[k].s.toList=true from fun j hj hjk=>HC.out.up hj hlt hjk)
   clear hcell k0 k1 k2 k3 hs1 hs2 hbd hom;generalize C[k]=x at *;generalize sb (·.st) (C.take k)=st0 at *
   generalize sb (·.v) (C.take k)=sv0 at *
   obtain ⟨xs,xv,xa,xt⟩:=x;dsimp only at p0 p1 p2 p3 w8 w9 hct HPu HUp;have HCt:=hj_ (show ∀ wz,Below w5.heap.size w5 wz→Calls Tryz.prog 21 #[.slice A5 (ovL most C5).length c5,.string xs] wz fun e w'=>e=.returned (.bool (decide (most<xa)))∧Below wz.heap.size wz w' from fun wz hz=>hct wz (HO5.out.below hz) HOl.out)
   clear hct;obtain ⟨W6,hW6⟩:=ex_ (wr.alloc (.cells #[.string xs,.int .i64 xv,.int .i64 xa,.int .i64 xt] 56));have hb6:Below wr.heap.size wr W6:=by rw [hW6];exact (br_).alloc lr_ _
   have HY6:=hj_ (show Cells W6 wr.heap.size [.string xs,.int .i64 xv,.int .i64 xa,.int .i64 xt] by rw [hW6];exact Cells.fresh wr [.string xs,.int .i64 xv,.int .i64 xa,.int .i64 xt] _)
   have HB6:=hj_ (ht_ hB hb6);have HW6:=hj_ hW6;have y0:=HY6.out.at_ (j:=0) rfl
   have y1:=HY6.out.at_ (j:=1) rfl
   have y2:=HY6.out.at_ (j:=2) rfl
   have y3:=HY6.out.at_ (j:=3) rfl
   have ly:=HY6.out.1;generalize (ovL most C5).length=ol at *;clear hb6 hW6 hB;go_wp2_with fail;rw [← HW6.out];clear p0 p1 p2 p3 hbw
   by_cases hk0:k=0
   case pos =>
    subst hk0;clear HUp HPrev;refine wp_region_held_drew (S:=fun w'=>w'.cell? ⟨wr.heap.size,0,none⟩=some (.string xs)∧w'.cell? ⟨wr.heap.size,1,none⟩=some (.int .i64 xv)∧w'.cell? ⟨wr.heap.size,2,none⟩=some (.int .i64 xa)∧w'.cell? ⟨wr.heap.size,3,none⟩=some (.int .i64 xt)) k_ (by first | exact ⟨y0,y1,y2,y3⟩) (fun hHeld=>?_)
    refine tq 0 ?_;refine tq 1 ?_;refine tq 2 ?_;refine tq 3 ?_;refine tq 4 ?_;refine tq 5 ?_;refine tq 6 ?_;refine tq 7 ?_;refine tq 8 ?_;refine tq 9 ?_;refine tq 10 ?_;refine tq 11 ?_;refine tq 12 ?_;refine tq 13 ?_;refine tq 14 ?_;refine tq 15 ?_;refine tq 16 ?_;refine tq 18 ?_;refine tq 19 ?_;refine tq 20 ?_;refine tq 21 ?_;refine wpAnyH_ready (rs:=[17]) k_ s_ ?_
    refine AllReadyH.cons rfl (fun K hK=>?_) AllReadyH.nil
    go_simp
    go_at_call 21;refine (HCt.out _ (q18 HB6.out 1)).mono ?_;rintro e w7 ⟨rfl,hb⟩;have hb7:=(q18 (Below.refl W6.heap.size W6) 1).trans (hb.mono (q18 (Below.refl W6.heap.size W6) 1).size);have HB7:=hj_ (ht_ HB6.out hb7);have HY7:=hj_ (HY6.out.below hb7 HY6.out.1);replace y0:=HY7.out.at_ (j:=0) rfl;replace y1:=HY7.out.at_ (j:=1) rfl;replace y2:=HY7.out.at_ (j:=2) rfl;replace y3:=HY7.out.at_ (j:=3) rfl;clear hb hb7
    go_wp2_with fail;refine hK.out _ _ (by first | exact ⟨y0,y1,y2,y3⟩) (fun hHeld=>?_)
    clear hK K
    try simp only [Act.put,List.setIfInBounds_toArray,List.set_cons_zero,List.set_cons_succ]
    refine tq 22 ?_;refine tq 23 ?_;refine wpAnyH_done k_ ?_ _
    have HX8:=HY7.out;replace y1:=HX8.at_ (j:=1) rfl
    replace y2:=HX8.at_ (j:=2) rfl
    have ly7:=HX8.1;go_wp2_with fail
    go_roundw
    case rel=>exact ⟨_,HLt.out,by go_num,by rw [HPu.out.1],by rw [HPu.out.2],HB7.out⟩
    case measure=>have:=HLt.out;simp [intOf];omega
   case neg =>
    have g0:decide ((k:Int) > 0)=true:=decide_eq_true o_
    have g00:decide (0<k)=true:=decide_eq_true o_
    have g01:0<k:=o_
    obtain ⟨j,hj⟩:∃ j,k=j+1:=⟨k-1,o_⟩
    have hjl:j<C.length:=o_
    have hup:=HUp.out j hjl o_
    have HP4:=hj_ (HPrev.out j hjl o_)
    have j0:(0:Int)≤(j:Int):=o_
    have j1:(j:Int)<(C.length:Int):=o_
    have wj:IntKind.i64.wrap ((k:Int)-1)=(j:Int):=by rw [show (k:Int)-1=(j:Int) by omega];exact IntWalk.i64_in _ (oh_ HCl.out)
    generalize C[j].s=ys at *;have y4:=HP4.out _ HB6.out;clear HUp HPrev hj hjl;refine wp_region_held_drew (S:=fun w'=>w'.cell? ⟨wr.heap.size,0,none⟩=some (.string xs)∧w'.cell? ⟨wr.heap.size,1,none⟩=some (.int .i64 xv)∧w'.cell? ⟨wr.heap.size,2,none⟩=some (.int .i64 xa)∧w'.cell? ⟨wr.heap.size,3,none⟩=some (.int .i64 xt)∧w'.cell? ⟨b,o+j*4,none⟩=some (.string ys)) k_ (by first | exact ⟨y0,y1,y2,y3,y4⟩) (fun hHeld=>?_)
    refine tq 0 ?_;refine tq 1 ?_;refine tq 2 ?_;refine tq 3 ?_;refine tq 4 ?_;refine tq 5 ?_;refine tq 6 ?_;refine tq 7 ?_;refine tq 8 ?_;refine tq 9 ?_;refine tq 10 ?_;refine tq 11 ?_;refine tq 12 ?_;refine tq 13 ?_;refine tq 14 ?_;refine tq 15 ?_;refine tq 16 ?_;refine tq 18 ?_;refine tq 19 ?_;refine tq 20 ?_;refine tq 21 ?_;refine wpAnyH_ready (rs:=[17]) k_ s_ ?_
    refine AllReadyH.cons rfl (fun K hK=>?_) AllReadyH.nil
    go_simp
    go_at_call 21;refine (HCt.out _ (q18 HB6.out 1)).mono ?_;rintro e w7 ⟨rfl,hb⟩;have hb7:=(q18 (Below.refl W6.heap.size W6) 1).trans (hb.mono (q18 (Below.refl W6.heap.size W6) 1).size);have HB7:=hj_ (ht_ HB6.out hb7);have HY7:=hj_ (HY6.out.below hb7 HY6.out.1);replace y0:=HY7.out.at_ (j:=0) rfl;replace y1:=HY7.out.at_ (j:=1) rfl;replace y2:=HY7.out.at_ (j:=2) rfl;replace y3:=HY7.out.at_ (j:=3) rfl;replace y4:=HP4.out _ HB7.out;clear hb hb7
    go_wp2_with fail;refine hK.out _ _ (by first | exact ⟨y0,y1,y2,y3,y4⟩) (fun hHeld=>?_)
    clear hK K
    try simp only [Act.put,List.setIfInBounds_toArray,List.set_cons_zero,List.set_cons_succ]
    refine tq 22 ?_;refine tq 23 ?_;refine wpAnyH_done k_ ?_ _
    have HX8:=HY7.out;replace y1:=HX8.at_ (j:=1) rfl
    replace y2:=HX8.at_ (j:=2) rfl
    have ly7:=HX8.1;go_wp2_with fail
    go_roundw
    case rel=>exact ⟨_,HLt.out,by go_num,by rw [HPu.out.1],by rw [HPu.out.2],HB7.out⟩
    case measure=>have:=HLt.out;simp [intOf];omega
  case neg =>
   obtain rfl:k=C.length:=o_
   rw [List.take_length];have HBV:=hj_ (ht_ HB5.out hB);have HXV:=hj_ (HX5.out.below hB HX5.out.1);obtain ⟨V,hV⟩:=ex_ wr;subst hV;obtain ⟨c0,c1,c2⟩:=HK.out _ HBV.out;have hbc:=HBdC.out C.length lr_;rw [List.take_length] at hbc;have HTot:=hj_ HC.out.total;have HCnt:=hj_ HC.out.count;have HXv:=hj_ (HRi.out.below HBV.out).hx;have HWat:=hj_ (fun (x:Fx) (p:PC) (w':World) (hb:Below V.heap.size V w') (h:pcF P x.pr=some p)=>q0km A0 n0 d0 A1 n1 d1 A2 X.length d2 P x p w' ((HRi.out.below HBV.out).hp.below hb) HRi.out.hn1 h)
   have HWk:=hj_ HRi.out.hW;have HXl:=hj_ HRi.out.hX;have HBdX:=hj_ (show ∀ k,k≤X.length→(0≤sb (fun x:Fx=>if x.cb=⟨#[]⟩ then wattV P x else 0) (X.take k)∧sb (fun x:Fx=>if x.cb=⟨#[]⟩ then wattV P x else 0) (X.take k)≤4294967296)∧0≤sb (fun x:Fx=>if x.cb=⟨#[]⟩ then (1:Int) else 0) (X.take k)∧sb (fun x:Fx=>if x.cb=⟨#[]⟩ then (1:Int) else 0) (X.take k)≤4294967296 from fun k hk=>by
    have hX:=HXl.out;have h1:=sb_bd (f:=fun x:Fx=>if x.cb=⟨#[]⟩ then wattV P x else 0) (B:=1048576) (l:=X.take k) fun x hx=>by
     obtain ⟨p,hp,p0,p1⟩:=HWk.out x (List.mem_of_mem_take hx);rw [q0iz hp]
     split <;> omega
    have h2:=sb_bd (f:=fun x:Fx=>if x.cb=⟨#[]⟩ then (1:Int) else 0) (B:=1) (l:=X.take k) fun x hx=>by split <;> omega
    rw [List.length_take] at h1 h2
    omega)
   generalize sb (·.st) C=sC at *
   generalize sb (·.v) C=vC at *
   have HBc:=hj_ hbc;clear hB hbc c1 c0;go_wp2_with fail
   go_loopw [11,12,90] (fun sv nv iv wr=>∃ k:Nat,k≤X.length∧iv=.int .i64 k∧sv=.int .i64 (sC+sb (fun x:Fx=>if x.cb=⟨#[]⟩ then wattV P x else 0) (X.take k))∧nv=.int .i64 (vC+sb (fun x:Fx=>if x.cb=⟨#[]⟩ then (1:Int) else 0) (X.take k))∧Below V.heap.size V wr) (fun _ _ iv _=>X.length-(intOf iv).toNat)
   case atStart=>exact ⟨0,Nat.zero_le _,rfl,by simp [sb],by simp [sb],br_⟩
   case round =>
    obtain ⟨k,hk,rfl,rfl,rfl,hB⟩:=hrel
    by_cases hlt:k<X.length
    case pos =>
     obtain ⟨b,o,rfl,hbl,hcell⟩:=fx_at HXv.out o_
     have hk7:=hcell k hlt;have kk:=fun (q:Nat)=>hB.cell (p:=⟨b,q,none⟩) hbl
     have hbw:b<wr.heap.size:=Nat.lt_of_lt_of_le hbl hB.size;have hs1:=q0nv (fun x:Fx=>if x.cb=⟨#[]⟩ then wattV P x else 0) (X.take k) X[k]
     have hs2:=q0nv (fun x:Fx=>if x.cb=⟨#[]⟩ then (1:Int) else 0) (X.take k) X[k]
     rw [← List.take_succ_eq_append_getElem hlt] at hs1 hs2;obtain ⟨p,hpc,hw0,hw1⟩:=HWk.out X[k] (List.getElem_mem hlt);have hwx:=fun w' hb=>HWat.out X[k] p w' hb hpc
     rw [q0iz hpc] at hs1;have hbd:=HBdX.out k hk;have i0:(0:Int)≤(k:Int):=o_
     have i1:(k:Int)<(X.length:Int):=o_
     have w0:IntKind.i64.wrap ((k:Int)+1)=(k:Int)+1:=IntWalk.i64_in _ (oh_ HXl.out)
     have HLt:=hj_ hlt;have HPu:=hj_ (And.intro hs1 hs2);generalize sb (fun x:Fx=>if x.cb=⟨#[]⟩ then wattV P x else 0) (X.take k)=sk at *
     generalize sb (fun x:Fx=>if x.cb=⟨#[]⟩ then (1:Int) else 0) (X.take k)=vk at *
     have w8:IntKind.i64.wrap (sC+sk+p.wa)=sC+sk+p.wa:=IntWalk.i64_in _ (oh_ HBc.out)
     have w9:IntKind.i64.wrap (vC+vk+1)=vC+vk+1:=IntWalk.i64_in _ (oh_ HBc.out)
     clear hcell hs1 hs2 hpc hw0 hw1 hbd;generalize X[k]=x at *;obtain ⟨ch,pt,pr,un,ad,ph,cb⟩:=x;obtain ⟨ps,pf,pw,pA,pn,pc⟩:=p;dsimp only at hk7 HPu w8;obtain ⟨k0,k1,k2,k3,k4,k5,k6⟩:=hk7;have p0:=(kk _).trans k0;have p1:=(kk _).trans k1;have p2:=(kk _).trans k2;have p3:=(kk _).trans k3;have p4:=(kk _).trans k4;have p5:=(kk _).trans k5;have p6:=(kk _).trans k6;have HWx:=hj_ (show ∀ w',Below V.heap.size V w'→Calls Tryz.prog 16 #[.agg #[.slice A0 n0 d0,.slice A1 n1 d1,.slice (some ⟨b,o,none⟩) X.length d2],.agg #[.int .i64 ch,.int .i64 pt,.string pr,.int .i64 un,.int .i64 ad,.int .i64 ph,.string cb]] w' fun e w''=>e=.returned (.int .i64 pw)∧Below w'.heap.size w' w'' from hwx)
     obtain ⟨W6,hW6⟩:=ex_ (wr.alloc (.cells #[.int .i64 ch,.int .i64 pt,.string pr,.int .i64 un,.int .i64 ad,.int .i64 ph,.string cb] 45));have hb6:Below wr.heap.size wr W6:=by rw [hW6];exact (br_).alloc lr_ _
     have HY6:=hj_ (show Cells W6 wr.heap.size [.int .i64 ch,.int .i64 pt,.string pr,.int .i64 un,.int .i64 ad,.int .i64 ph,.string cb] by rw [hW6];exact Cells.fresh wr [.int .i64 ch,.int .i64 pt,.string pr,.int .i64 un,.int .i64 ad,.int .i64 ph,.string cb] _)
     have HB6:=hj_ (ht_ hB hb6);have HW6:=hj_ hW6;have y0:=HY6.out.at_ (j:=0) rfl
     have y1:=HY6.out.at_ (j:=1) rfl
     have y2:=HY6.out.at_ (j:=2) rfl
     have y3:=HY6.out.at_ (j:=3) rfl
     have y4:=HY6.out.at_ (j:=4) rfl
     have y5:=HY6.out.at_ (j:=5) rfl
     have y6:=HY6.out.at_ (j:=6) rfl
     have ly:=HY6.out.1;obtain ⟨c0,c1,c2⟩:=HK.out _ (ht_ HBV.out HB6.out);have hwl:w.heap.size<W6.heap.size:=Nat.lt_of_lt_of_le (by rw [HW.out];simp) (ht_ HBV.out HB6.out).size
     have hbq:=q1w cb ⟨#[]⟩;clear hb6 hW6 hwx k0 k1 k2 k3 k4 k5 k6 kk
     by_cases hn:cb=⟨#[]⟩
     ·subst hn
      rw [decide_eq_true rfl] at hbq;have HPv:=hj_ (show _∧_ from ⟨HPu.out.1.trans (by rw [if_pos rfl]),HPu.out.2.trans (by rw [if_pos rfl])⟩)
      clear HPu hB;go_wp2_with fail;rw [← HW6.out];clear p0 p1 p2 p3 p4 p5 p6 hbw;refine wp_region_held_drew (S:=fun w'=>w'.cell? ⟨w.heap.size,0,none⟩=some (.slice A0 n0 d0)∧w'.cell? ⟨w.heap.size,1,none⟩=some (.slice A1 n1 d1)∧w'.cell? ⟨w.heap.size,2,none⟩=some (.slice (some ⟨b,o,none⟩) X.length d2)∧w'.cell? ⟨wr.heap.size,0,none⟩=some (.int .i64 ch)∧w'.cell? ⟨wr.heap.size,1,none⟩=some (.int .i64 pt)∧w'.cell? ⟨wr.heap.size,2,none⟩=some (.string pr)∧w'.cell? ⟨wr.heap.size,3,none⟩=some (.int .i64 un)∧w'.cell? ⟨wr.heap.size,4,none⟩=some (.int .i64 ad)∧w'.cell? ⟨wr.heap.size,5,none⟩=some (.int .i64 ph)∧w'.cell? ⟨wr.heap.size,6,none⟩=some (.string ⟨#[]⟩)) k_ (by first | exact ⟨c0,c1,c2,y0,y1,y2,y3,y4,y5,y6⟩) (fun hHeld=>?_)
      refine tq 0 ?_;refine tq 1 ?_;refine tq 3 ?_;refine wpAnyH_ready (rs:=[2]) k_ s_ ?_
      refine AllReadyH.cons rfl (fun K hK=>?_) AllReadyH.nil
      go_simp
      go_at_call 11;refine (HOw.out _).mono ?_;rintro e w7 ⟨rfl,hb⟩;have hb7:=(q18 (Below.refl W6.heap.size W6) 1).trans (hb.mono (q18 (Below.refl W6.heap.size W6) 1).size);have HB7:=hj_ (ht_ HB6.out hb7);have HY7:=hj_ (HY6.out.below hb7 HY6.out.1);replace y0:=HY7.out.at_ (j:=0) rfl;replace y1:=HY7.out.at_ (j:=1) rfl;replace y2:=HY7.out.at_ (j:=2) rfl;replace y3:=HY7.out.at_ (j:=3) rfl;replace y4:=HY7.out.at_ (j:=4) rfl;replace y5:=HY7.out.at_ (j:=5) rfl;replace y6:=HY7.out.at_ (j:=6) rfl;obtain ⟨c0,c1,c2⟩:=HK.out _ (ht_ HBV.out HB7.out);clear hb hb7
      go_wp2_with fail;refine hK.out _ _ (by first | exact ⟨c0,c1,c2,y0,y1,y2,y3,y4,y5,y6⟩) (fun hHeld=>?_)
      clear hK K
      try simp only [Act.put,List.setIfInBounds_toArray,List.set_cons_zero,List.set_cons_succ]
      refine wpAnyH_ready (rs:=[4]) k_ s_ ?_
      refine AllReadyH.cons rfl (fun K hK=>?_) AllReadyH.nil
      go_simp
      go_at_call 16;refine (HWx.out _ HB7.out).mono ?_;rintro e w8 ⟨rfl,hb⟩;have hb7:=hb;have HB8:=hj_ (ht_ HB7.out hb7);have HY8:=hj_ (HY7.out.below hb7 HY7.out.1);replace y0:=HY8.out.at_ (j:=0) rfl;replace y1:=HY8.out.at_ (j:=1) rfl;replace y2:=HY8.out.at_ (j:=2) rfl;replace y3:=HY8.out.at_ (j:=3) rfl;replace y4:=HY8.out.at_ (j:=4) rfl;replace y5:=HY8.out.at_ (j:=5) rfl;replace y6:=HY8.out.at_ (j:=6) rfl;obtain ⟨c0,c1,c2⟩:=HK.out _ (ht_ HBV.out HB8.out);clear hb hb7
      go_wp2_with fail;refine hK.out _ _ (by first | exact ⟨c0,c1,c2,y0,y1,y2,y3,y4,y5,y6⟩) (fun hHeld=>?_)
      clear hK K
      try simp only [Act.put,List.setIfInBounds_toArray,List.set_cons_zero,List.set_cons_succ]
      refine tq 5 ?_;refine tq 6 ?_;refine wpAnyH_done k_ ?_ _
      go_wp2_with fail
      go_roundw
      case rel=>exact ⟨k+1,HLt.out,by go_num,by rw [HPv.out.1,Int.add_assoc],by rw [HPv.out.2,Int.add_assoc],HB8.out⟩
      case measure=>have:=HLt.out;simp [intOf];omega
     ·rw [decide_eq_false hn] at hbq
      have hce:cb.toList.isEmpty=false:=by
       rw [ByteArray.toList_eq]
       cases h:cb.data.toList with
       | nil=>exact absurd (ByteArray.ext (Array.ext' h)) hn
       | cons a l=>rfl
      have HPv:=hj_ (show _∧_ from ⟨HPu.out.1.trans (by rw [if_neg hn]),HPu.out.2.trans (by rw [if_neg hn])⟩)
      clear HPu hB hn;go_wp2_with fail;rw [← HW6.out]
      go_roundw
      case rel=>exact ⟨k+1,HLt.out,by go_num,by rw [HPv.out.1,Int.add_zero],by rw [HPv.out.2,Int.add_zero],HB6.out⟩
      case measure=>have:=HLt.out;simp [intOf];omega
    case neg =>
     obtain rfl:k=X.length:=o_
     rw [List.take_length,HTot.out,HCnt.out,← HSum.out];have HBe:=hj_ (ht_ HBV.out hB);have HXe:=hj_ (HXV.out.below hB HXV.out.1);obtain ⟨c0,c1,c2⟩:=HK.out _ HBe.out;have f0:=HXe.out.at_ (j:=0) rfl
     have f1:=HXe.out.at_ (j:=1) rfl
     have f2:=HXe.out.at_ (j:=2) rfl
     have lf:=HXe.out.1;have hwl:w.heap.size<wr.heap.size:=Nat.lt_of_lt_of_le (by rw [HW.out];simp) HBe.out.size
     clear hB;go_wp2_with (go_at_call 8;refine (HAw.out _ (HT.out.below HBe.out) (HRg.out.below HBe.out)).mono ?_;rintro e w9 ⟨rfl,hb⟩);go_ret;exact ⟨rfl,HFin.out _ (ht_ HBe.out hb)⟩
theorem q0np (w:World) (g:RG) (hg:g.good w) (m:Int) (_:(Lit.int .i64 m).wf=true) (hL:Laid w) :
  Calls Tryz.prog 6 #[.agg g.cs.toArray,.int .i64 m] w fun e w'=>e=.returned (.bool true)∧Below w.heap.size w w':=by
 obtain ⟨H,L,PL,X,hg⟩:=hg;exact q0lr w g H L PL X m hg hL.1 hL.2
end Go.Proofs.YtabhjdmmfdfpeaaGreatDoor

namespace Go.Proofs.YtabhjdmmfdfpeaaGreatDoor.powerHangsP
set_option maxHeartbeats 32000000
set_option maxRecDepth 100000
open _root_.Go.Proofs.Tryz
open Go.ChangeShapes Go.ChangeMaps Go.WideShapes Go.ChangeAt Go.RowKit
theorem lifted (os:Os) (started:os.Started) (H:Type) (enc:TypeId × Value→H) :
  ReturnsInHanded {} Tryz.checked os 6 .any (fun w args=>(Rows.powerHangsSpec.pre enc Tryz.prog Tryz.f6 [] false w args∧laidMetH Tryz.prog Rows.powerHangsRow.laid w)∧sizedMet enc Tryz.prog Tryz.f6 (OpenSpec.ofChange Rows.powerHangsSpec) false w args)
   (Rows.powerHangsSpec.post enc Tryz.prog Tryz.f6 false true false false):=by
 refine returnsInHanded_of_change_and (C:=Tryz.checked) (X:=fun w _=>laidMetH Tryz.prog Rows.powerHangsRow.laid w) (fun _ _ _ hh h=>h.of_heap hh) own_ started k_ Tryz.func6
  (ChangeSpec.witness_at (enc:=enc) (C:=Tryz.checked) (os:=os) (X:=fun w _=>laidMetH Tryz.prog Rows.powerHangsRow.laid w) false (qcj os) #[.agg #[.slice none 0 0,.slice none 0 0,.slice none 0 0],.int .i64 0] 8 rfl k_ k_ k_ k_ k_ (qck os _)) ?_
 intro W base args ds gs before hval0 hW _ hWt hL _;have hval:∀ (j:Nat) t v,Tryz.f6.params[j]? = some t→args[j]? = some v→Value.okWide Tryz.prog W .any base t v:=hval0;have hW':=hW;obtain ⟨p,q,hA0,hV,rfl,hfz,hnd⟩:=hW;have hA:DataW.TrodAll enc Tryz.prog W 0 (fun _=>true) true Tryz.f6.params.toList args.toList ds p:=hA0
 rw [Tryz.params6] at hA hval hWt;obtain ⟨v0,vs0,d0,ds0,p0,q0,hargs,rfl,rfl,h0,r0⟩:=trodAll_cons hA;obtain ⟨v1,vs1,d1,ds1,p1,q1,rfl,rfl,rfl,h1,r1⟩:=trodAll_cons r0;obtain ⟨rfl,rfl,rfl⟩:=trodAll_nil r1;obtain rfl:args=#[v0,v1]:=by cases args;simp_all
 obtain ⟨rfl,rfl⟩:=trodVars_none hV;have lt0:∀ x ∈ p0,x.block<W.heap.size:=by obtain ⟨m,hm⟩:=h0;exact DataW.trod_lt m _ _ _ hm
 obtain ⟨cs0,fuel0,y0,rfl,hf0⟩:=q0a Tryz.underlying26 (hval 0 26 v0 rfl rfl) h0;obtain ⟨g0,rfl,hg0⟩:=qmc hf0;obtain ⟨x1,rfl,rfl,rfl,w1⟩:=open_int Tryz.underlying3 (hval 1 3 v1 rfl rfl) h1;clear hA0 hval0 hWt;simp only [List.append_nil] at hW';refine (q0np W g0 hg0 x1 w1 (qcl hL)).mono fun e W' ⟨he,bel⟩=>?_
 subst he;exact ⟨_,rfl,_,_,_,[],_,[],hW',trodAll_mk1 (shut_bool Tryz.underlying4 _),(trodAll_cons_mk (Below.trod qci k_ (of_decide_eq_true k_) h0 bel lt0) (trodAll_cons_mk (shut_int Tryz.underlying3 w1) trodAll_mk0)),rfl,bel.frame _,fun h=>by cases h⟩
theorem over:Rows.powerHangsRow.holds Tryz.pinned (OpenSpec.ofChange Rows.powerHangsSpec) :=
 OpenClaim.holds_of_wide 6 Tryz.f6 rfl rfl rfl rfl rfl rfl rfl ⟨rfl,rfl,rfl,rfl,rfl⟩ rfl rfl rfl rfl rfl k_ Tryz.func6 q0nn
  (of_decide_eq_true k_) (by unfold Func.isWrapper;rw [if_neg (of_decide_eq_false k_)];exact ⟨rfl,rfl⟩)
  (fun os started H enc _=>lifted os started H enc)
theorem qew:∀ t ∈ Tryz.f6.params.toList,Tryz.prog.wantsStandIn t=false:=by
 rw [Tryz.params6];intro t ht;simp only [List.mem_cons,List.not_mem_nil,or_false] at ht
 rcases ht with rfl | rfl <;> kernel_rfl
theorem limb1:OpenClaim.wfByText (OpenSpec.ofChange Rows.powerHangsSpec) Rows.powerHangsRow=true:=k_
theorem limb2 : Tryz.pinned.checked.prog.mainIs = some ((true, "c8318d360e0c024054e6fcf728bc31ca31889c9b1c4374acf87c4bc26a77ea3a").1, (true, "c8318d360e0c024054e6fcf728bc31ca31889c9b1c4374acf87c4bc26a77ea3a").2.toList) := k_
theorem limb3:true=Tryz.pinned.checked.prog.looks []:=k_
theorem limb4:false=Rows.powerHangsRow.goesBy Tryz.pinned.checked.prog:=k_
theorem limb5 : Tryz.prog.funcNamed "luminaire/luminairelaw59.PowerHangs" = some 6 := k_
theorem proved:Rows.PowerHangsCardSaid :=
 Claim7.holds_tied_plain_at .later [] [.data, .data, .data, .data, .sentinel, .sentinel, .pinned] true (true, "c8318d360e0c024054e6fcf728bc31ca31889c9b1c4374acf87c4bc26a77ea3a") true
  over (fun _ h=>by cases h) limb1 (fun _ h=>by cases h) powerHangs_row_tie rfl ⟨rfl,rfl⟩ limb2 rfl
  (fun f fn hf hfn=>by
   obtain rfl:f=6:=Option.some.inj (limb5.symm.trans hf) |>.symm
   obtain rfl:fn=Tryz.f6:=(Option.some.inj (Tryz.func6.symm.trans hfn)).symm;exact ⟨limb3,fun j t ht=>qew t (Array.mem_toList_iff.2 (Array.mem_of_getElem? ht))⟩)
  limb4
#print axioms proved
end Go.Proofs.YtabhjdmmfdfpeaaGreatDoor.powerHangsP
